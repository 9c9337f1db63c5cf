/- A part of the proof of a law of this seat. No condition of its own. -/
import Derived.Test.YtgcmddaibnimjaaGreatDoorM5
import Derived.ProofKit
import Derived.SizedLaws
import Derived.Deep.Slices
import Derived.OpenShut
import Derived.Test.YtgcmddaibnimjaaGreatDoorRows
set_option linter.unusedVariables false
set_option linter.unusedSimpArgs false
namespace Go.Proofs.YtgcmddaibnimjaaGreatDoor
open Go.RowKit Go.Eng
theorem okO_len {outs : List ByteArray} {o : Oc} (h : OkO outs o) : o.outs.length ≤ outs.length := by
 rcases h.kind with h1 | h1
 ·rw [h1.2.2]; exact sub_len (uqs_nd _) fun x hx => uqs_mem.1 hx
 ·rw [h1.2.2]; exact Nat.zero_le _
theorem feed_ex {B : BC} {known : List Kn} {β : BS} (hks : ∀ k ∈ known, KOk k) (hB : BOk B β) : ∃ γ, β.feed B known 600 = γ ∧ BOk B γ ∧ (γ.over = true ∨ kfind known γ.asks = none) :=
 ⟨_, rfl, (feed_ok hks 600 β hB).1, (feed_ok hks 600 β hB).2 (by omega)⟩
theorem c_lawGoOn2 {γ : BS} {Ak : Option Addr} {ck : Nat} {known : List Kn} {B : BC} {H0 : Hp} {β0 : BS} {mr : Res} {w0 W : World} (hγ : β0.feed B known 600 = γ) (G : Gl w0) (hS : BSm B) (hB0 : BOk B β0) (hA : Sl w0 3 encK Ak known) (hks : ∀ k ∈ known, KOk k) (hkl : known.length ≤ 1000000000) (hkz : ∀ k ∈ known, k.data.size ≤ 9000000000000000000) (hR : BE B H0 β0 [mr] w0 W) :
  Calls Tryz.prog 19 [pt B.bx, .slice Ak known.length ck].toArray W (Ret fun v w' => GoP B H0 [mr] w0 w' v γ) := hγ ▸ c_lawGoOn G hS hB0 hA hks hkl hkz hR
theorem zv4 (w : World) : (zeroValue 4).run Tryz.prog w = .ok (.bool false) w := by kernel_rfl
theorem sl_at2 {α : Type} {w : World} {z b o : Nat} {enc : α → List Value} {xs : List α} (h : Sl w z enc (some ⟨b, o, none⟩) xs) {j : Nat} (hj : j < xs.length) (i : Nat) (u : Value) (hu : (enc xs[j])[i]? = some u) : w.cell? ⟨b, o + j * z + i, none⟩ = some u := by
 obtain ⟨b', o', h1, _, h2⟩ := h.at_ hj
 cases h1
 exact h2 i u hu
theorem newE_cases {w0 w : World} {v : Value} {env : List (ByteArray × ByteArray)} {outs ins asks : List ByteArray} {cs : List Res} {t : ByteArray} (h : NewE w0 w v env outs ins asks cs (commandsE t)) :
  (∃ e n, commandsE t = .inl (e, n) ∧ ¬ e = 0 ∧ v = .tuple [.pointer none, .int .i64 e].toArray ∧ St w0 w cs) ∨ (∃ l B Hb, commandsE t = .inr l ∧ B.C.env = env ∧ B.outs = outs ∧ B.ins = ins ∧ B.asks = asks ∧ v = .tuple [pt B.bx, .int .i64 0].toArray ∧ BE B Hb ((BS.start l).go B) cs w0 w) := by
 generalize hr : commandsE t = r at h
 match r, h with
 | .inl (e, n), ⟨h1, h2⟩ => exact .inl ⟨e, n, rfl, com_ne hr, h1, h2⟩
 | .inr l, ⟨B, H0, h1, h2, h3, h4, h5, h6⟩ => exact .inr ⟨l, B, H0, rfl, h1, h2, h3, h4, h5, h6⟩
theorem mem_sum {α : Type} (f : α → Nat) {l : List α} {x : α} (h : x ∈ l) : f x ≤ (l.map f).sum := by
 induction l with
 | nil => cases h
 | cons y l ih =>
  rw [List.map_cons, List.sum_cons]
  rcases List.mem_cons.1 h with rfl | h
  ·omega
  ·have := ih h; omega
theorem kz_mem {l : List Kn} {k : Kn} (h : k ∈ l) : k.path.size + k.data.size + 1 ≤ kz l := mem_sum kz1 h
theorem sz1_mem {l : List ByteArray} {x : ByteArray} (h : x ∈ l) : x.size + 1 ≤ sz1 l := mem_sum (fun s : ByteArray => s.size + 1) h
theorem ez1_mem {l : List (ByteArray × ByteArray)} {x : ByteArray × ByteArray} (h : x ∈ l) : x.1.size + x.2.size + 1 ≤ ez1 l := mem_sum (fun x : ByteArray × ByteArray => x.1.size + x.2.size + 1) h
theorem kok_of {l : List Kn} (h : kz l ≤ 5000) : ∀ k ∈ l, KOk k := fun k hk _ => by have := kz_mem hk; omega
theorem small_of {t : ByteArray} {env : List (ByteArray × ByteArray)} {ins asks outs : List ByteArray} (h : gz t env ins asks outs ≤ 2000) :
  t.size ≤ 1000000 ∧ env.length ≤ 1000000 ∧ (∀ x ∈ env, x.2.size ≤ 1000000000) ∧ (outs.length ≤ 1000000 ∧ ins.length ≤ 1000000 ∧ asks.length ≤ 1000000) ∧ (∀ x ∈ asks, x.size ≤ 1000000) ∧ ∀ x ∈ outs, x.size ≤ 1000000 := by
 have e : lsz (gl ins asks outs) = sz1 ins + (sz1 asks + (sz1 outs + 0)) := rfl
 unfold gz at h
 have h1 := ez1_len env; have h2 := sz1_len ins; have h3 := sz1_len asks; have h4 := sz1_len outs
 refine ⟨by omega, by omega, fun x hx => ?_, ⟨by omega, by omega, by omega⟩, fun x hx => ?_, fun x hx => ?_⟩
 ·have := ez1_mem hx; omega
 ·have := sz1_mem hx; omega
 ·have := sz1_mem hx; omega
theorem bsm_of {B : BC} {env : List (ByteArray × ByteArray)} {outs ins asks : List ByteArray} (h1 : B.C.env = env) (h2 : B.outs = outs) (h3 : B.ins = ins) (h4 : B.asks = asks) (m2 : env.length ≤ 1000000) (m3 : ∀ x ∈ env, x.2.size ≤ 1000000000) (m4 : outs.length ≤ 1000000 ∧ ins.length ≤ 1000000 ∧ asks.length ≤ 1000000) (m5 : ∀ x ∈ asks, x.size ≤ 1000000) (m6 : ∀ x ∈ outs, x.size ≤ 1000000) : BSm B := by
 subst h1 h2 h3 h4; exact ⟨m2, m3, m4, m5, m6⟩
theorem fi41_1 : FieldIs Tryz.prog 41 1 1 := fieldIs (z := 0) Tryz.underlying41 rfl rfl rfl Tryz.sizeOf33
theorem fi66_0 : FieldIs Tryz.prog 66 0 0 := fieldIs (z := 0) Tryz.underlying66 rfl rfl rfl Tryz.sizeOf9
set_option maxRecDepth 4000
set_option maxHeartbeats 1000000 in
theorem c_BoxEnds {u1 u2 : Value} {t : ByteArray} {Ae Ai Aa Ao : Option Addr} {ce ci ca co : Nat} {env : List (ByteArray × ByteArray)} {ins asks outs : List ByteArray} {Ak : Option Addr} {ck : Nat} {known : List Kn} (w0 : World) (G : Gl w0) (he : Sl w0 2 encSt Ae env) (hi : Sl w0 1 encS Ai ins) (ha : Sl w0 1 encS Aa asks) (ho : Sl w0 1 encS Ao outs) (hK : Sl w0 3 encK Ak known) (hgz : gz t env ins asks outs ≤ 100000000) (hkz : kz known ≤ 100000000) : Calls Tryz.prog 6 [.agg (actC u1 u2 t Ae env.length ce Ai ins.length ci Aa asks.length ca Ao outs.length co).toArray, .slice Ak known.length ck].toArray w0 (Ret fun v w' => v = .bool true ∧ Below w0.heap.size w0 w') := by
 refine ent Tryz.func6 Tryz.ntmps6 rfl rfl ?_
 intro a F
 have S := St.refl w0
 refine sq fun K1 hK1 => ?_
 refine rg ?_
 refine dbx F S rfl rfl rfl rfl rfl rfl fun a w b2 F S => ?_
 refine dv F (y_as rfl rfl) rfl rfl rfl fun a F => ?_
 refine dn ?_
 refine tn <| hK1 _ _ ?_
 refine sq fun K2 hK2 => ?_
 refine sq fun K3 hK3 => ?_
 refine rg ?_
 refine dc F (c_f rfl rfl rfl Tryz.call14) rfl rfl rfl (c_boxAlive _ (G.st S)) fun a v w' hr F => ?_
 obtain ⟨rfl, hb⟩ := hr
 replace S := S.call hb
 refine dv F (y_nt rfl rfl) rfl rfl rfl fun a F => ?_
 refine dn ?_
 refine tn <| hK3 _ _ ?_
 refine cf F rfl (congrArg not rfl) ?_
 refine wp_skip ?_
 refine tn <| hK2 _ _ ?_
 refine sq fun K4 hK4 => ?_
 refine sq fun K5 hK5 => ?_
 refine rg ?_
 refine dv F (y_ld rfl rfl (S.lda (i := 0) rfl Tryz.isAgg27 Tryz.sizeOf27 rfl)) rfl rfl rfl fun a F => ?_
 refine dc F (c_f rfl rfl rfl Tryz.call15) rfl rfl rfl (c_Great _ (he.st S) (hi.st S) (ha.st S) (ho.st S) hgz) fun a v w' hr F => ?_
 obtain ⟨rfl, hb⟩ := hr
 replace S := S.call hb
 refine dv F (y_mv rfl rfl) rfl rfl rfl fun a F => ?_
 refine gsp F 20 rfl (fun h1 => ?_) (fun h1 => ?_)
 ·have g1 := h1
  try simp only [decide_eq_true_eq, decide_eq_false_iff_not, Bool.not_eq_true', Bool.not_eq_false', Bool.not_eq_eq_eq_not, Bool.not_true, Bool.not_false, Decidable.not_not] at g1
  refine gs F rfl rfl rfl h1 rfl rfl fun a F => ?_
  refine gs F rfl rfl rfl h1 rfl rfl fun a F => ?_
  refine dv F (y_pkt h1 rfl rfl rfl) rfl rfl rfl fun a F => ?_
  refine dn ?_
  refine tn <| hK5 _ _ ?_
  refine ct F rfl rfl ?_
  refine sq fun K6 hK6 => ?_
  refine rg ?_
  refine dv F (y_as rfl rfl) rfl rfl rfl fun a F => ?_
  refine dn ?_
  refine tn <| hK6 _ _ ?_
  refine wp_ret ?_
  refine tr <| ?_
  exact rt1 F rfl rfl ⟨rfl, S.bel⟩
 ·have g1 := h1
  try simp only [decide_eq_true_eq, decide_eq_false_iff_not, Bool.not_eq_true', Bool.not_eq_false', Bool.not_eq_eq_eq_not, Bool.not_true, Bool.not_false, Decidable.not_not] at g1
  refine gv F rfl rfl rfl h1 (y_mv rfl rfl) rfl rfl fun a F => ?_
  refine gc F rfl rfl rfl h1 (c_f rfl rfl rfl Tryz.call16) rfl rfl (c_Many _ (hK.st S) hkz) fun a v w' hr F => ?_
  obtain ⟨rfl, hb⟩ := hr
  replace S := S.call hb
  refine dv F (y_pkf h1 rfl rfl rfl) rfl rfl rfl fun a F => ?_
  refine dn ?_
  refine tn <| hK5 _ _ ?_
  refine cb F rfl (fun h2 => ?_) (fun h2 => ?_)
  ·have g2 := h2
   try simp only [decide_eq_true_eq, decide_eq_false_iff_not, Bool.not_eq_true', Bool.not_eq_false', Bool.not_eq_eq_eq_not, Bool.not_true, Bool.not_false, Decidable.not_not] at g2
   refine sq fun K7 hK7 => ?_
   refine rg ?_
   refine dv F (y_as rfl rfl) rfl rfl rfl fun a F => ?_
   refine dn ?_
   refine tn <| hK7 _ _ ?_
   refine wp_ret ?_
   refine tr <| ?_
   exact rt1 F rfl rfl ⟨rfl, S.bel⟩
  ·have g2 := h2
   try simp only [decide_eq_true_eq, decide_eq_false_iff_not, Bool.not_eq_true', Bool.not_eq_false', Bool.not_eq_eq_eq_not, Bool.not_true, Bool.not_false, Decidable.not_not] at g2
   refine wp_skip ?_
   refine tn <| hK4 _ _ ?_
   refine sq fun K8 hK8 => ?_
   have g2 : gz t env ins asks outs ≤ 2000 := by omega
   have g3 : kz known ≤ 5000 := by omega
   have hks := kok_of g3
   refine rg ?_
   refine dv F (y_ld rfl rfl (S.lda (i := 0) rfl Tryz.isAgg27 Tryz.sizeOf27 rfl)) rfl rfl rfl fun a F => ?_
   obtain ⟨hm1, hm2, hm3, hm4, hm5, hm6⟩ := small_of g2
   refine dc F (c_f rfl rfl rfl Tryz.call17) rfl rfl rfl (e_New (cs := [bk b2 27 (actC u1 u2 t Ae env.length ce Ai ins.length ci Aa asks.length ca Ao outs.length co)]) G S hm1 he hi ha ho hm2 hm3 hm4 hm5) fun a v w' hr F => ?_
   have hN := hr
   have hN2 := newE_cases hN
   clear S
   rcases hN2 with ⟨e, n, hcm, hne, rfl, S⟩ | ⟨lc, B, Hb, hcm, hbe, hbo, hbi, hba, rfl, hR⟩
   ·refine dv F (y_mv rfl rfl) rfl rfl rfl fun a F => ?_
    refine dv F (y_ex rfl rfl rfl) rfl rfl rfl fun a F => ?_
    refine dv F (y_ex rfl rfl rfl) rfl rfl rfl fun a F => ?_
    refine dv F (y_as rfl rfl) rfl rfl rfl fun a F => ?_
    refine dv F (y_as rfl rfl) rfl rfl rfl fun a F => ?_
    refine dn ?_
    refine tn <| hK8 _ _ ?_
    refine sq fun K9 hK9 => ?_
    refine sq fun K10 hK10 => ?_
    refine rg ?_
    refine dv F (y_mv rfl rfl) rfl rfl rfl fun a F => ?_
    refine dv F (y_in rfl rfl rfl) rfl rfl rfl fun a F => ?_
    refine dn ?_
    refine tn <| hK10 _ _ ?_
    refine ct F rfl (by simpa using hne) ?_
    refine sq fun K11 hK11 => ?_
    refine rg ?_
    refine dv F (y_as rfl rfl) rfl rfl rfl fun a F => ?_
    refine dn ?_
    refine tn <| hK11 _ _ ?_
    refine wp_ret ?_
    refine tr <| ?_
    exact rt1 F rfl rfl ⟨rfl, S.bel⟩
   ·have hSm : BSm B := bsm_of hbe hbo hbi hba hm2 hm3 hm4 hm5 hm6
    have hB := start_ok' (B := B) hcm
    obtain ⟨sb, sr, A, c, vals, H, Ar, cr, hsr, hle, hE, hv, hF, S⟩ := hR
    refine dv F (y_mv rfl rfl) rfl rfl rfl fun a F => ?_
    refine dv F (y_ex rfl rfl rfl) rfl rfl rfl fun a F => ?_
    refine dv F (y_ex rfl rfl rfl) rfl rfl rfl fun a F => ?_
    refine dv F (y_as rfl rfl) rfl rfl rfl fun a F => ?_
    refine dv F (y_as rfl rfl) rfl rfl rfl fun a F => ?_
    refine dn ?_
    refine tn <| hK8 _ _ ?_
    refine sq fun K12 hK12 => ?_
    refine sq fun K13 hK13 => ?_
    refine rg ?_
    refine dv F (y_mv rfl rfl) rfl rfl rfl fun a F => ?_
    refine dv F (y_in rfl rfl rfl) rfl rfl rfl fun a F => ?_
    refine dn ?_
    refine tn <| hK13 _ _ ?_
    refine cf F rfl rfl ?_
    refine wp_skip ?_
    refine tn <| hK12 _ _ ?_
    refine sq fun K14 hK14 => ?_
    refine rg ?_
    refine dv F (y_mv rfl rfl) rfl rfl rfl fun a F => ?_
    refine dv F (y_mv rfl rfl) rfl rfl rfl fun a F => ?_
    obtain ⟨γ, hγ, hfo⟩ := feed_ex (known := known) hks hB
    have hR : BE B Hb ((BS.start lc).go B) [bk b2 27 (actC u1 u2 t Ae env.length ce Ai ins.length ci Aa asks.length ca Ao outs.length co)] _ _ := ⟨sb, sr, A, c, vals, H, Ar, cr, hsr, hle, hE, hv, hF, (S.pick [0, 1, 2, 3, 4, 5, 6, 7, 8] _ ⟨rfl, rfl, rfl, rfl, rfl, rfl, rfl, rfl, rfl, trivial⟩ rfl)⟩
    refine dc F (c_f rfl rfl rfl Tryz.call19) rfl rfl rfl (c_lawGoOn2 hγ G hSm hB hK hks (by have := kz_len known; omega) (fun k hk => by have := kz_mem hk; omega) hR) fun a v w' hr F => ?_
    obtain ⟨H1, A1, c1, A2, c2, hle1, rfl, hf1, hf2, hR⟩ := hr
    obtain ⟨sb, sr, A, c, vals, H, Ar, cr, hsr, hle, hE, hv, hF, S⟩ := hR
    refine dv F (y_mv rfl rfl) rfl rfl rfl fun a F => ?_
    refine dv F (y_ex rfl rfl rfl) rfl rfl rfl fun a F => ?_
    refine dv F (y_ex rfl rfl rfl) rfl rfl rfl fun a F => ?_
    refine dv F (y_ex rfl rfl rfl) rfl rfl rfl fun a F => ?_
    refine dv F (y_ex rfl rfl rfl) rfl rfl rfl fun a F => ?_
    refine dal F S rfl Tryz.zeroValue41 rfl rfl rfl rfl fun a w b9 F S => ?_
    refine dv F (y_as rfl rfl) rfl rfl rfl fun a F => ?_
    refine dv F (y_as rfl rfl) rfl rfl rfl fun a F => ?_
    refine dsw F S rfl rfl rfl Tryz.sizeOf41 (i := 9) rfl rfl rfl rfl (one41 _ _ _ _ _ _ _ _) rfl rfl fun a w F S => ?_
    refine dv F (y_as rfl rfl) rfl rfl rfl fun a F => ?_
    refine dn ?_
    refine tn <| hK14 _ _ ?_
    refine sq fun K15 hK15 => ?_
    refine sq fun K16 hK16 => ?_
    refine rg ?_
    refine dv F (y_mv rfl rfl) rfl rfl rfl fun a F => ?_
    refine dv F (y_nt rfl rfl) rfl rfl rfl fun a F => ?_
    refine dv F (y_mv rfl rfl) rfl rfl rfl fun a F => ?_
    refine gv F rfl rfl rfl (congrArg not rfl) (y_mv rfl rfl) rfl rfl fun a F => ?_
    refine dv F (y_pkf (congrArg not rfl) rfl rfl rfl) rfl rfl rfl fun a F => ?_
    refine dn ?_
    refine tn <| hK16 _ _ ?_
    refine cb F rfl (fun hwt => ?_) (fun hwt => ?_)
    ·refine sq fun K17 hK17 => ?_
     have hov : γ.over = false := by simpa using hwt
     rw [out_wait hov] at S
     refine rg ?_
     refine dv F (y_mv rfl rfl) rfl rfl rfl fun a F => ?_
     refine dv F (y_mv rfl rfl) rfl rfl rfl fun a F => ?_
     refine gv F rfl rfl rfl rfl (y_fa rfl rfl fi41_0) rfl rfl fun a F => ?_
     refine gv F rfl rfl rfl rfl (y_ld rfl rfl (S.ld (i := 9) rfl rfl Tryz.isAgg3)) rfl rfl fun a F => ?_
     refine gv F rfl rfl rfl rfl (y_ie rfl rfl rfl) rfl rfl fun a F => ?_
     refine dv F (y_pkt rfl rfl rfl rfl) rfl rfl rfl fun a F => ?_
     refine dv F (y_mv rfl rfl) rfl rfl rfl fun a F => ?_
     refine gv F rfl rfl rfl rfl (y_fa rfl rfl fi41_3) rfl rfl fun a F => ?_
     refine gv F rfl rfl rfl rfl (y_ld rfl rfl (S.ld (i := 9) rfl rfl Tryz.isAgg39)) rfl rfl fun a F => ?_
     refine gv F rfl rfl rfl rfl (y_ln rfl rfl Tryz.underlying39) rfl rfl fun a F => ?_
     refine gv F rfl rfl rfl rfl (y_ie rfl rfl rfl) rfl rfl fun a F => ?_
     refine dv F (y_pkt rfl rfl rfl rfl) rfl rfl rfl fun a F => ?_
     refine dv F (y_as rfl rfl) rfl rfl rfl fun a F => ?_
     refine dn ?_
     refine tn <| hK17 _ _ ?_
     refine wp_ret ?_
     refine tr <| ?_
     exact rt1 F rfl rfl ⟨rfl, S.bel⟩
    ·refine wp_skip ?_
     refine tn <| hK15 _ _ ?_
     refine sq fun K18 hK18 => ?_
     have hov : γ.over = true := by simpa using hwt
     have hO : OkO outs γ.out := hbo ▸ okO_of hfo.1.j hov
     have hol := okO_len hO
     generalize γ.out = o at hO hol hf1 hf2 S
     refine rg ?_
     refine dmme F S rfl rfl rfl rfl fun a w m56 F S => ?_
     refine dv F (y_as rfl rfl) rfl rfl rfl fun a F => ?_
     refine dn ?_
     refine tn <| hK18 _ _ ?_
     refine sq fun K19 hK19 => ?_
     refine sq fun K20 hK20 => ?_
     refine rg ?_
     refine dv F (y_fa rfl rfl fi27_5) rfl rfl rfl fun a F => ?_
     refine dv F (y_ld rfl rfl (S.ld (i := 8) rfl rfl Tryz.isAgg25)) rfl rfl rfl fun a F => ?_
     refine dv F (y_ln rfl rfl Tryz.underlying25) rfl rfl rfl fun a F => ?_
     refine dv F (y_mv rfl rfl) rfl rfl rfl fun a F => ?_
     refine dn ?_
     refine tn <| hK20 _ _ ?_
     refine bl ?_
     refine lp (fun m a w => ∃ j : Nat, m = outs.length - j ∧ (j ≤ outs.length) ∧ Fr 125 a [(9, pt b9), (11, .map (some m56)), (58, .slice Ao outs.length co), (59, .int .i64 (outs.length : Int)), (60, .int .i64 (j : Int))] ∧ St w0 w [fz H, bk b9 41 (encOc o A1 c1 A2 c2), mpe m56 (ms (uqs (outs.take j)))]) (outs.length) ?_ ?_
     ·exact ⟨0, rfl, Nat.zero_le _, F.sub _ ⟨rfl, rfl, rfl, rfl, rfl, trivial⟩, S.pick [3, 9, 10] _ ⟨rfl, rfl, rfl, trivial⟩ rfl⟩
     ·repeat clear S
      rintro m a w ⟨j, hm, hj, F, S⟩
      refine sq fun K21 hK21 => ?_
      refine rg ?_
      refine dv F (y_lt rfl rfl rfl) rfl rfl rfl fun a F => ?_
      refine dn ?_
      refine tn <| hK21 _ _ ?_
      refine sq fun K22 hK22 => ?_
      refine cd F rfl (fun hlt => ?_) (fun hlt => ?_)
      ·refine wp_skip ?_
       refine tn <| hK22 _ _ ?_
       refine sq fun K23 hK23 => ?_
       refine bl ?_
       refine sq fun K24 hK24 => ?_
       replace hlt : j < outs.length := by omega
       obtain ⟨ab, ao, rfl, hab, hcell⟩ := (ho.st S).at_ (j := j) hlt
       refine rg ?_
       refine dv F (y_ia rfl rfl rfl rfl Tryz.underlying25 Tryz.sizeOf9 j rfl hlt) rfl rfl rfl fun a F => ?_
       refine dv F (y_ld rfl rfl (ld1 Tryz.isAgg9 (hcell 0 _ rfl))) rfl rfl rfl fun a F => ?_
       refine dv F (y_as rfl rfl) rfl rfl rfl fun a F => ?_
       refine dn ?_
       refine tn <| hK24 _ _ ?_
       refine rg ?_
       refine dv F (y_mv rfl rfl) rfl rfl rfl fun a F => ?_
       refine dv F (y_mv rfl rfl) rfl rfl rfl fun a F => ?_
       refine dmst F S rfl rfl rfl rfl (i := 2) rfl Tryz.underlying48 Tryz.underlying9 rfl rfl fun a w F S => ?_
       rw [uqs_take hlt] at S
       refine dn ?_
       refine bn <| tn <| hK23 _ _ ?_
       refine rg ?_
       refine dv F (y_add rfl rfl rfl (by omega)) rfl rfl rfl fun a F => ?_
       refine dv F (y_mv rfl rfl) rfl rfl rfl fun a F => ?_
       refine dn ?_
       exact ln (by omega) ⟨j + 1, rfl, by omega, F.sub _ ⟨rfl, rfl, rfl, rfl, rfl, trivial⟩, S.pick [0, 1, 2] _ ⟨rfl, rfl, rfl, trivial⟩ rfl⟩
      ·refine wp_exit ?_
       refine tx <| lx <| bh <| tn <| hK19 _ _ ?_
       refine sq fun K25 hK25 => ?_
       refine sq fun K26 hK26 => ?_
       have hje : j = outs.length := by omega
       subst hje
       rw [List.take_length] at S
       refine rg ?_
       refine dv F (y_fa rfl rfl fi41_2) rfl rfl rfl fun a F => ?_
       refine dv F (y_ld rfl rfl (S.ld (i := 1) rfl rfl Tryz.isAgg38)) rfl rfl rfl fun a F => ?_
       refine dv F (y_ln rfl rfl Tryz.underlying38) rfl rfl rfl fun a F => ?_
       refine dv F (y_mv rfl rfl) rfl rfl rfl fun a F => ?_
       refine dn ?_
       refine tn <| hK26 _ _ ?_
       refine bl ?_
       refine lp (fun m a w => ∃ i : Nat, m = o.outs.length - i ∧ (i ≤ o.outs.length) ∧ Fr 125 a [(9, pt b9), (11, .map (some m56)), (68, .slice A1 o.outs.length c1), (69, .int .i64 (o.outs.length : Int)), (70, .int .i64 (i : Int))] ∧ St w0 w [fz H, bk b9 41 (encOc o A1 c1 A2 c2), mpe m56 (ms (uqs outs))]) (o.outs.length) ?_ ?_
       ·exact ⟨0, rfl, Nat.zero_le _, F.sub _ ⟨rfl, rfl, rfl, rfl, rfl, trivial⟩, S.pick [0, 1, 2] _ ⟨rfl, rfl, rfl, trivial⟩ rfl⟩
       ·repeat clear S
        rintro m a w ⟨i, hm, hi2, F, S⟩
        refine sq fun K27 hK27 => ?_
        refine rg ?_
        refine dv F (y_lt rfl rfl rfl) rfl rfl rfl fun a F => ?_
        refine dn ?_
        refine tn <| hK27 _ _ ?_
        refine sq fun K28 hK28 => ?_
        refine cd F rfl (fun hlt => ?_) (fun hlt => ?_)
        ·refine wp_skip ?_
         refine tn <| hK28 _ _ ?_
         refine sq fun K29 hK29 => ?_
         refine bl ?_
         refine sq fun K30 hK30 => ?_
         replace hlt : i < o.outs.length := by omega
         have hf1' := hf1.le hle
         obtain ⟨ab, ao, rfl, hab, hcell⟩ := (hf1'.sl S (i := 0) rfl).at_ (j := i) hlt
         refine rg ?_
         refine dv F (y_mv rfl rfl) rfl rfl rfl fun a F => ?_
         refine dv F (y_ia rfl rfl rfl rfl Tryz.underlying38 Tryz.sizeOf66 i rfl hlt) rfl rfl rfl fun a F => ?_
         refine dv F (y_ld rfl rfl (lda Tryz.isAgg66 Tryz.sizeOf66 (lenSt _) hcell)) rfl rfl rfl fun a F => ?_
         refine dal F S rfl Tryz.zeroValue66 rfl rfl rfl rfl fun a w b15 F S => ?_
         refine dv F (y_as rfl rfl) rfl rfl rfl fun a F => ?_
         refine dsw F S rfl rfl rfl Tryz.sizeOf66 (i := 3) rfl rfl rfl rfl (oneSt _) rfl rfl fun a w F S => ?_
         refine dn ?_
         refine tn <| hK30 _ _ ?_
         refine sq fun K31 hK31 => ?_
         have hin := hO.mem i hlt
         refine rq (C := fun w => St _ w _) Tryz.mixed (by kernel_rfl) (S.drewN 1) ?_
         refine qv F (fun w S => y_mv rfl rfl) rfl rfl rfl fun a F => ?_
         refine qv F (fun w S => y_fa rfl rfl fi66_0) rfl rfl rfl fun a F => ?_
         refine qv F (fun w S => y_ld rfl rfl (S.ld (i := 3) rfl rfl Tryz.isAgg9)) rfl rfl rfl fun a F => ?_
         refine qv F (fun w S => y_ms rfl rfl rfl (S.ok (i := 2) rfl) Tryz.underlying48 Tryz.underlying9 zv4) rfl rfl rfl fun a F => ?_
         refine qv F (fun w S => y_nt rfl rfl) rfl rfl rfl fun a F => ?_
         refine qv F (fun w S => y_mv rfl rfl) rfl rfl rfl fun a F => ?_
         refine qgv F rfl rfl rfl (congrArg not hin) (fun w S => y_mv rfl rfl) rfl rfl fun a F => ?_
         refine qgv F rfl rfl rfl (congrArg not hin) (fun w S => y_gt rfl rfl rfl) rfl rfl fun a F => ?_
         refine qgv F rfl rfl rfl (congrArg not hin) (fun w S => y_mv rfl rfl) rfl rfl fun a F => ?_
         refine gsp F 83 rfl (fun h3 => ?_) (fun h3 => ?_)
         ·have g3 := h3
          try simp only [decide_eq_true_eq, decide_eq_false_iff_not, Bool.not_eq_true', Bool.not_eq_false', Bool.not_eq_eq_eq_not, Bool.not_true, Bool.not_false, Decidable.not_not] at g3
          refine qgv F rfl rfl rfl h3 (fun w S => y_fa rfl rfl fi41_2) rfl rfl fun a F => ?_
          refine qgv F rfl rfl rfl h3 (fun w S => y_ld rfl rfl (S.ld (i := 1) rfl rfl Tryz.isAgg38)) rfl rfl fun a F => ?_
          refine qgv F rfl rfl rfl h3 (fun w S => y_mv rfl rfl) rfl rfl fun a F => ?_
          refine qgv F rfl rfl rfl h3 (fun w S => y_sub rfl rfl rfl (by omega)) rfl rfl fun a F => ?_
          refine qgv F rfl rfl rfl h3 (fun w S => y_ia rfl rfl rfl rfl Tryz.underlying38 Tryz.sizeOf66 (i - 1) (by omega) (by omega)) rfl rfl fun a F => ?_
          refine qgv F rfl rfl rfl h3 (fun w S => y_fa rfl rfl fi66_0) rfl rfl fun a F => ?_
          refine qgv F rfl rfl rfl h3 (fun w S => y_ld rfl rfl (ld1 Tryz.isAgg9 (sl_at2 (hf1'.sl S (i := 0) rfl) (by omega) 0 _ rfl))) rfl rfl fun a F => ?_
          refine qgv F rfl rfl rfl h3 (fun w S => y_fa rfl rfl fi66_0) rfl rfl fun a F => ?_
          refine qgv F rfl rfl rfl h3 (fun w S => y_ld rfl rfl (S.ld (i := 3) rfl rfl Tryz.isAgg9)) rfl rfl fun a F => ?_
          refine qgv F rfl rfl rfl h3 (fun w S => y_sge rfl rfl rfl) rfl rfl fun a F => ?_
          refine qgv F rfl rfl rfl (congrArg not hin) (fun w S => y_pkt h3 rfl rfl rfl) rfl rfl fun a F => ?_
          refine qv F (fun w S => y_pkf (congrArg not hin) rfl rfl rfl) rfl rfl rfl fun a F => ?_
          refine qn fun w S => ?_
          refine tn <| hK31 _ _ ?_
          refine cf F rfl (by rw [decide_eq_true (hO.up i (by omega) hlt)]; rfl) ?_
          refine wp_skip ?_
          refine bn <| tn <| hK29 _ _ ?_
          refine rg ?_
          refine dv F (y_add rfl rfl rfl (by omega)) rfl rfl rfl fun a F => ?_
          refine dv F (y_mv rfl rfl) rfl rfl rfl fun a F => ?_
          refine dn ?_
          exact ln (by omega) ⟨i + 1, rfl, by omega, F.sub _ ⟨rfl, rfl, rfl, rfl, rfl, trivial⟩, S.pick [0, 1, 2] _ ⟨rfl, rfl, rfl, trivial⟩ rfl⟩
         ·have g3 := h3
          try simp only [decide_eq_true_eq, decide_eq_false_iff_not, Bool.not_eq_true', Bool.not_eq_false', Bool.not_eq_eq_eq_not, Bool.not_true, Bool.not_false, Decidable.not_not] at g3
          refine qgs F rfl rfl rfl h3 rfl rfl fun a F => ?_
          refine qgs F rfl rfl rfl h3 rfl rfl fun a F => ?_
          refine qgs F rfl rfl rfl h3 rfl rfl fun a F => ?_
          refine qgs F rfl rfl rfl h3 rfl rfl fun a F => ?_
          refine qgs F rfl rfl rfl h3 rfl rfl fun a F => ?_
          refine qgs F rfl rfl rfl h3 rfl rfl fun a F => ?_
          refine qgs F rfl rfl rfl h3 rfl rfl fun a F => ?_
          refine qgs F rfl rfl rfl h3 rfl rfl fun a F => ?_
          refine qgs F rfl rfl rfl h3 rfl rfl fun a F => ?_
          refine qgs F rfl rfl rfl h3 rfl rfl fun a F => ?_
          refine qgv F rfl rfl rfl (congrArg not hin) (fun w S => y_pkf h3 rfl rfl rfl) rfl rfl fun a F => ?_
          refine qv F (fun w S => y_pkf (congrArg not hin) rfl rfl rfl) rfl rfl rfl fun a F => ?_
          refine qn fun w S => ?_
          refine tn <| hK31 _ _ ?_
          refine cf F rfl rfl ?_
          refine wp_skip ?_
          refine bn <| tn <| hK29 _ _ ?_
          refine rg ?_
          refine dv F (y_add rfl rfl rfl (by omega)) rfl rfl rfl fun a F => ?_
          refine dv F (y_mv rfl rfl) rfl rfl rfl fun a F => ?_
          refine dn ?_
          exact ln (by omega) ⟨i + 1, rfl, by omega, F.sub _ ⟨rfl, rfl, rfl, rfl, rfl, trivial⟩, S.pick [0, 1, 2] _ ⟨rfl, rfl, rfl, trivial⟩ rfl⟩
        ·refine wp_exit ?_
         refine tx <| lx <| bh <| tn <| hK25 _ _ ?_
         refine sq fun K32 hK32 => ?_
         refine sq fun K33 hK33 => ?_
         refine rg ?_
         refine dv F (y_fa rfl rfl fi41_0) rfl rfl rfl fun a F => ?_
         refine dv F (y_ld rfl rfl (S.ld (i := 1) rfl rfl Tryz.isAgg3)) rfl rfl rfl fun a F => ?_
         refine dv F (y_ie rfl rfl rfl) rfl rfl rfl fun a F => ?_
         refine dn ?_
         refine tn <| hK33 _ _ ?_
         refine cd F rfl (fun hk1 => ?_) (fun hk1 => ?_)
         ·obtain ⟨hw0, hlen⟩ : o.why = 0 ∧ o.outs.length = (uqs outs).length := by
           rcases hO.kind with hq | hq
           ·exact hq.2
           ·exact absurd hq.1 (by omega)
          refine sq fun K34 hK34 => ?_
          refine rg ?_
          refine dv F (y_fa rfl rfl fi41_1) rfl rfl rfl fun a F => ?_
          refine dv F (y_ld rfl rfl (S.ld (i := 1) rfl rfl Tryz.isAgg33)) rfl rfl rfl fun a F => ?_
          refine dv F (y_ie rfl rfl rfl) rfl rfl rfl fun a F => ?_
          refine dv F (y_mv rfl rfl) rfl rfl rfl fun a F => ?_
          refine gv F rfl rfl rfl (decide_eq_true hw0) (y_fa rfl rfl fi41_2) rfl rfl fun a F => ?_
          refine gv F rfl rfl rfl (decide_eq_true hw0) (y_ld rfl rfl (S.ld (i := 1) rfl rfl Tryz.isAgg38)) rfl rfl fun a F => ?_
          refine gv F rfl rfl rfl (decide_eq_true hw0) (y_ln rfl rfl Tryz.underlying38) rfl rfl fun a F => ?_
          refine gv F rfl rfl rfl (decide_eq_true hw0) (y_mv rfl rfl) rfl rfl fun a F => ?_
          refine gv F rfl rfl rfl (decide_eq_true hw0) (y_lnm rfl rfl (S.ok (i := 2) rfl) Tryz.underlying48) rfl rfl fun a F => ?_
          refine gv F rfl rfl rfl (decide_eq_true hw0) (y_ie rfl rfl rfl) rfl rfl fun a F => ?_
          refine dv F (y_pkt (decide_eq_true hw0) rfl rfl rfl) rfl rfl rfl fun a F => ?_
          refine dv F (y_as rfl rfl) rfl rfl rfl fun a F => ?_
          refine dn ?_
          refine tn <| hK34 _ _ ?_
          refine wp_ret ?_
          refine tr <| ?_
          exact rt1 F rfl rfl ⟨congrArg Value.bool (by rw [ms_len, hlen]; simp), S.bel⟩
         ·obtain ⟨hk2, hw0, hnil⟩ : o.kind = 2 ∧ ¬ o.why = 0 ∧ o.outs = [] := by
           rcases hO.kind with hq | hq
           ·exact absurd hq.1 hk1
           ·exact hq
          refine wp_skip ?_
          refine tn <| hK32 _ _ ?_
          refine sq fun K35 hK35 => ?_
          refine rg ?_
          refine dv F (y_fa rfl rfl fi41_0) rfl rfl rfl fun a F => ?_
          refine dv F (y_ld rfl rfl (S.ld (i := 1) rfl rfl Tryz.isAgg3)) rfl rfl rfl fun a F => ?_
          refine dv F (y_ie rfl rfl rfl) rfl rfl rfl fun a F => ?_
          refine dv F (y_mv rfl rfl) rfl rfl rfl fun a F => ?_
          refine gv F rfl rfl rfl (decide_eq_true hk2) (y_fa rfl rfl fi41_1) rfl rfl fun a F => ?_
          refine gv F rfl rfl rfl (decide_eq_true hk2) (y_ld rfl rfl (S.ld (i := 1) rfl rfl Tryz.isAgg33)) rfl rfl fun a F => ?_
          refine gv F rfl rfl rfl (decide_eq_true hk2) (y_in rfl rfl rfl) rfl rfl fun a F => ?_
          refine dv F (y_pkt (decide_eq_true hk2) rfl rfl rfl) rfl rfl rfl fun a F => ?_
          refine dv F (y_mv rfl rfl) rfl rfl rfl fun a F => ?_
          refine gv F rfl rfl rfl (by rw [decide_eq_false hw0]; rfl) (y_fa rfl rfl fi41_2) rfl rfl fun a F => ?_
          refine gv F rfl rfl rfl (by rw [decide_eq_false hw0]; rfl) (y_ld rfl rfl (S.ld (i := 1) rfl rfl Tryz.isAgg38)) rfl rfl fun a F => ?_
          refine gv F rfl rfl rfl (by rw [decide_eq_false hw0]; rfl) (y_ln rfl rfl Tryz.underlying38) rfl rfl fun a F => ?_
          refine gv F rfl rfl rfl (by rw [decide_eq_false hw0]; rfl) (y_ie rfl rfl rfl) rfl rfl fun a F => ?_
          refine dv F (y_pkt (by rw [decide_eq_false hw0]; rfl) rfl rfl rfl) rfl rfl rfl fun a F => ?_
          refine dv F (y_as rfl rfl) rfl rfl rfl fun a F => ?_
          refine dn ?_
          refine tn <| hK35 _ _ ?_
          refine wp_ret ?_
          refine ?_
          exact rt1 F rfl rfl ⟨congrArg Value.bool (by rw [hnil]; rfl), S.bel⟩
end Go.Proofs.YtgcmddaibnimjaaGreatDoor
namespace Go.Proofs.YtgcmddaibnimjaaGreatDoor
open Go.RowKit Go.Eng Go.ChangeShapes Go.WideShapes
theorem bulkAll_map {H : Type} {α : Type} (D : α → DataW H) (f : α → Nat) : ∀ (l : List α), (∀ i ∈ l, f i ≤ Rows.uptoBulk (D i)) → (l.map f).sum ≤ Rows.uptoBulkAll (l.map D)
 | [], _ => Nat.zero_le _
 | x :: l, h => by
  have h1 := bulkAll_map D f l fun i hi => h i (List.mem_cons_of_mem _ hi)
  have h2 := h x (List.mem_cons_self ..)
  simp only [List.map_cons, List.sum_cons, Rows.uptoBulkAll]
  omega
section
variable {H : Type} {he : TypeId × Value → H} {P : Program} {w : World} {base : Nat} {spare : Nat → Bool} {held : Bool}
theorem addr_addZ {w : World} {a : Addr} (h : ∃ u, w.cell? a = some u) : a = ⟨a.block, a.off, none⟩ ∧ a.block < w.heap.size := by
 obtain ⟨u, h⟩ := h
 unfold World.cell? at h
 split at h
 ·rename_i c _ _ hb
  refine ⟨?_, (Array.getElem?_eq_some_iff.1 hb).1⟩
  obtain ⟨b, o, s⟩ := a
  cases s with
  | none => rfl
  | some s => simp at h
 ·cases h
theorem add_none (b o n : Nat) : (⟨b, o, none⟩ : Addr).add n = ⟨b, o + n, none⟩ := by
 unfold Addr.add
 by_cases h : n = 0 <;> simp [h]
theorem op_slB {α : Type} {enc : α → List Value} {z : Nat} {t e : TypeId} {fuel : Nat} {cs : List Value} {x : DataW H × List MemPlace} (m : α → Nat) (ht : P.underlying t = some (.slice e)) (hz : P.cellsOf e = z) (hzp : 0 < z)
  (hel : ∀ n cs y, DataW.trod he P w base spare held n e cs = some y → ∃ a, cs = enc a ∧ m a ≤ Rows.uptoBulk y.1)
  (h : DataW.trod he P w base spare held fuel t cs = some x) :
  ∃ A xs c, cs = [.slice A xs.length c] ∧ Sl w z enc A xs ∧ (xs.map m).sum ≤ Rows.uptoBulk x.1 := by
 rcases Deep.open_slice ht h with ⟨rfl, rfl⟩ | ⟨a, len, cap, q, n, D, Pl, rfl, hb, hlc, hcm, rfl, rfl, hx⟩
 ·exact ⟨none, [], 0, rfl, Sl.nil, Nat.zero_le _⟩
 have hmlen : len ≤ (if spare a.block = true then cap else len) := by split <;> omega
 have key : ∀ i, i < len → ∃ a', (∃ cs', w.cells? base (a.add (i * z)) z = some cs' ∧ cs' = enc a') ∧ m a' ≤ Rows.uptoBulk (D i) := by
  intro i hi
  obtain ⟨cs', h1, h2⟩ := hx i (by omega)
  rw [hz] at h1
  obtain ⟨a', h3, h4⟩ := hel _ _ _ h2
  exact ⟨a', ⟨cs', h1, h3⟩, h4⟩
 by_cases hl0 : len = 0
 ·subst hl0
  exact ⟨some a, [], cap, rfl, Sl.nil, Nat.zero_le _⟩
 obtain ⟨a0, _⟩ := key 0 (by omega)
 haveI : Inhabited α := ⟨a0⟩
 obtain ⟨f, hf⟩ := Deep.choose_lt (α := α) (p := fun i a' => (∃ cs', w.cells? base (a.add (i * z)) z = some cs' ∧ cs' = enc a') ∧ m a' ≤ Rows.uptoBulk (D i)) key
 have hlen : ((List.range len).map f).length = len := by simp
 obtain ⟨⟨cs0, hc0, e0⟩, _⟩ := hf 0 (by omega)
 obtain ⟨_, hl1, hcell0⟩ := World.cells?_some hc0
 have hcell00 := hcell0 0 (by omega)
 have hsome : ∃ u, w.cell? a = some u := by
  refine ⟨cs0[0]'(by omega), ?_⟩
  rw [show (a.add (0 * z)).add 0 = a by simp [Addr.add]] at hcell00
  rw [hcell00, List.getElem?_eq_getElem (by omega)]
 obtain ⟨ha, hab⟩ := addr_addZ hsome
 refine ⟨some a, (List.range len).map f, cap, by rw [hlen], fun _ => ⟨a.block, a.off, congrArg some ha, hab, ?_⟩, ?_⟩
 ·intro j x hj i u hu
  have hjl : j < len := by
   have := (List.getElem?_eq_some_iff.1 hj).1
   simpa using this
  have hxj : x = f j := by
   simp [hjl] at hj
   exact hj.symm
  subst hxj
  obtain ⟨⟨cs', hc', e'⟩, _⟩ := hf j hjl
  obtain ⟨_, hl', hcell'⟩ := World.cells?_some hc'
  have hiz : i < z := by
   have := (List.getElem?_eq_some_iff.1 hu).1
   rw [← e', hl'] at this
   exact this
  have := hcell' i hiz
  rw [e', hu] at this
  rw [← this]
  congr 1
  rw [ha, add_none, add_none]
 ·have h1 : (((List.range len).map f).map m).sum = ((List.range len).map fun i => m (f i)).sum := by rw [List.map_map]; rfl
  rw [h1]
  have h2 := bulkAll_map D (fun i => m (f i)) (List.range len) fun i hi => (hf i (List.mem_range.1 hi)).2
  show _ ≤ Rows.uptoBulk (DataW.slice _ _)
  simp only [Rows.uptoBulk]
  omega
end
theorem cells9 : Tryz.prog.cellsOf 9 = 1 := by kernel_rfl
theorem cells4 : Tryz.prog.cellsOf 4 = 1 := by kernel_rfl
theorem cells24 : Tryz.prog.cellsOf 24 = 1 := by kernel_rfl
theorem cells25 : Tryz.prog.cellsOf 25 = 1 := by kernel_rfl
theorem cells27 : Tryz.prog.cellsOf 27 = 7 := by kernel_rfl
theorem cells109 : Tryz.prog.cellsOf 109 = 2 := by kernel_rfl
theorem cells55 : Tryz.prog.cellsOf 55 = 3 := by kernel_rfl
section
variable {H : Type} {he : TypeId × Value → H} {w : World} {base : Nat} {spare : Nat → Bool} {held : Bool} {fuel : Nat} {cs : List Value} {x : DataW H × List MemPlace}
theorem opS (h : DataW.trod he Tryz.prog w base spare held fuel 9 cs = some x) : ∃ s : ByteArray, cs = encS s ∧ s.size + 1 ≤ Rows.uptoBulk x.1 := by
 obtain ⟨s, rfl, rfl, _⟩ := DataW.trod_string Tryz.underlying9 h
 exact ⟨s, rfl, by simp [Rows.uptoBulk]⟩
theorem opSs (h : DataW.trod he Tryz.prog w base spare held fuel 25 cs = some x) : ∃ A xs c, cs = [.slice A xs.length c] ∧ Sl w 1 encS A xs ∧ sz1 xs ≤ Rows.uptoBulk x.1 :=
 op_slB (fun s : ByteArray => s.size + 1) Tryz.underlying25 cells9 (by decide) (fun n cs y h => opS h) h
theorem takeOne {cs : List Value} {v : Value} {i : Nat} (h : (cs.drop i).take 1 = [v]) : cs[i]? = some v := by
 have : ((cs.drop i).take 1)[0]? = some v := by rw [h]; rfl
 simpa [List.getElem?_take, List.getElem?_drop] using this
theorem opPair {t : Nat} (ht : ∃ f0 f1 : Field, Tryz.prog.underlying t = some (.struct #[f0, f1]) ∧ f0.type = 9 ∧ f1.type = 9 ∧ f0.offset = 0 ∧ f1.offset = 1) (hc : Tryz.prog.cellsOf t = 2) (h : DataW.trod he Tryz.prog w base spare held fuel t cs = some x) :
  ∃ p : ByteArray × ByteArray, cs = encSt p ∧ p.1.size + p.2.size + 1 ≤ Rows.uptoBulk x.1 := by
 obtain ⟨f0, f1, ht, h0, h1, o0, o1⟩ := ht
 obtain ⟨y0, y1, n, rfl, hl, k0, k1⟩ := trod_struct2 ht h
 rw [h0, o0, cells9] at k0
 rw [h1, o1, cells9] at k1
 obtain ⟨s0, e0, b0⟩ := opS k0
 obtain ⟨s1, e1, b1⟩ := opS k1
 have c0 := takeOne e0
 have c1 := takeOne e1
 rw [hc] at hl
 refine ⟨(s0, s1), ?_, ?_⟩
 ·match cs, hl with
  | [a, b], _ => simp at c0 c1; subst c0 c1; rfl
 ·show _ ≤ Rows.uptoBulk (DataW.agg _)
  simp only [Rows.uptoBulk, Rows.uptoBulkAll]
  have b0' : s0.size + 1 ≤ Rows.uptoBulk y0.1 := b0
  have b1' : s1.size + 1 ≤ Rows.uptoBulk y1.1 := b1
  show s0.size + s1.size + 1 ≤ _
  omega
theorem opSt (h : DataW.trod he Tryz.prog w base spare held fuel 109 cs = some x) : ∃ p : ByteArray × ByteArray, cs = encSt p ∧ p.1.size + p.2.size + 1 ≤ Rows.uptoBulk x.1 := opPair ⟨_, _, Tryz.underlying109, rfl, rfl, rfl, rfl⟩ cells109 h
theorem opSts (h : DataW.trod he Tryz.prog w base spare held fuel 24 cs = some x) : ∃ A xs c, cs = [.slice A xs.length c] ∧ Sl w 2 encSt A xs ∧ ez1 xs ≤ Rows.uptoBulk x.1 :=
 op_slB (fun x : ByteArray × ByteArray => x.1.size + x.2.size + 1) Tryz.underlying24 cells109 (by decide) (fun n cs y h => opSt h) h
theorem opK (h : DataW.trod he Tryz.prog w base spare held fuel 55 cs = some x) : ∃ k : Kn, cs = encK k ∧ kz1 k ≤ Rows.uptoBulk x.1 := by
 obtain ⟨y0, y1, y2, n, rfl, hl, k0, k1, k2⟩ := Deep.trod_struct3 Tryz.underlying55 h
 rw [show Tryz.prog.cellsOf 9 = 1 from cells9] at k0
 rw [show Tryz.prog.cellsOf 4 = 1 from cells4] at k1
 rw [show Tryz.prog.cellsOf 9 = 1 from cells9] at k2
 obtain ⟨s0, e0, b0⟩ := opS k0
 obtain ⟨b, e1, _⟩ := DataW.trod_bool Tryz.underlying4 k1
 obtain ⟨s2, e2, b2⟩ := opS k2
 have c0 := takeOne e0
 have c1 := takeOne e1
 have c2 := takeOne e2
 rw [cells55] at hl
 refine ⟨⟨s0, b, s2⟩, ?_, ?_⟩
 ·match cs, hl with
  | [x0, x1, x2], _ => simp at c0 c1 c2; subst c0 c1 c2; rfl
 ·show s0.size + s2.size + 1 ≤ Rows.uptoBulk (DataW.agg _)
  simp only [Rows.uptoBulk, Rows.uptoBulkAll]
  have b0' : s0.size + 1 ≤ Rows.uptoBulk y0.1 := b0
  have b2' : s2.size + 1 ≤ Rows.uptoBulk y2.1 := b2
  omega
theorem opKs (h : DataW.trod he Tryz.prog w base spare held fuel 28 cs = some x) : ∃ A xs c, cs = [.slice A xs.length c] ∧ Sl w 3 encK A xs ∧ kz xs ≤ Rows.uptoBulk x.1 :=
 op_slB kz1 Tryz.underlying28 cells55 (by decide) (fun n cs y h => opK h) h
set_option maxRecDepth 8000 in
theorem opA (h : DataW.trod he Tryz.prog w base spare held fuel 27 cs = some x) :
  ∃ u1 u2 t Ae env ce Ai ins ci Aa asks ca Ao outs co, cs = actC u1 u2 t Ae env.length ce Ai ins.length ci Aa asks.length ca Ao outs.length co ∧ Sl w 2 encSt Ae env ∧ Sl w 1 encS Ai ins ∧ Sl w 1 encS Aa asks ∧ Sl w 1 encS Ao outs ∧ gz t env ins asks outs ≤ Rows.uptoBulk x.1 := by
 obtain ⟨xs, n, _, rfl, hl, hlen, hf⟩ := DataW.trod_struct Tryz.underlying27 h
 match xs, hlen with
 | [y0, y1, y2, y3, y4, y5], _ =>
  have k1 : DataW.trod he Tryz.prog w base spare held n 9 ((cs.drop 2).take (Tryz.prog.cellsOf 9)) = some y1 := hf 1 _ rfl
  have k2 : DataW.trod he Tryz.prog w base spare held n 24 ((cs.drop 3).take (Tryz.prog.cellsOf 24)) = some y2 := hf 2 _ rfl
  have k3 : DataW.trod he Tryz.prog w base spare held n 25 ((cs.drop 4).take (Tryz.prog.cellsOf 25)) = some y3 := hf 3 _ rfl
  have k4 : DataW.trod he Tryz.prog w base spare held n 25 ((cs.drop 5).take (Tryz.prog.cellsOf 25)) = some y4 := hf 4 _ rfl
  have k5 : DataW.trod he Tryz.prog w base spare held n 25 ((cs.drop 6).take (Tryz.prog.cellsOf 25)) = some y5 := hf 5 _ rfl
  rw [cells9] at k1
  rw [cells24] at k2
  rw [cells25] at k3 k4 k5
  obtain ⟨t, e1, b1⟩ := opS k1
  obtain ⟨Ae, env, ce, e2, s2, b2⟩ := opSts k2
  obtain ⟨Ai, ins, ci, e3, s3, b3⟩ := opSs k3
  obtain ⟨Aa, asks, ca, e4, s4, b4⟩ := opSs k4
  obtain ⟨Ao, outs, co, e5, s5, b5⟩ := opSs k5
  have c1 := takeOne e1; have c2 := takeOne e2; have c3 := takeOne e3; have c4 := takeOne e4; have c5 := takeOne e5
  rw [cells27] at hl
  match cs, hl with
  | [a0, a1, a2, a3, a4, a5, a6], _ =>
   simp at c1 c2 c3 c4 c5
   subst c1 c2 c3 c4 c5
   refine ⟨a0, a1, t, Ae, env, ce, Ai, ins, ci, Aa, asks, ca, Ao, outs, co, rfl, s2, s3, s4, s5, ?_⟩
   show t.size + (sz1 ins + (sz1 asks + (sz1 outs + 0))) + ez1 env ≤ Rows.uptoBulk (DataW.agg _)
   simp only [List.map_cons, List.map_nil, Rows.uptoBulk, Rows.uptoBulkAll]
   have b1' : t.size + 1 ≤ Rows.uptoBulk y1.1 := b1
   have b2' : ez1 env ≤ Rows.uptoBulk y2.1 := b2
   have b3' : sz1 ins ≤ Rows.uptoBulk y3.1 := b3
   have b4' : sz1 asks ≤ Rows.uptoBulk y4.1 := b4
   have b5' : sz1 outs ≤ Rows.uptoBulk y5.1 := b5
   omega
end
end Go.Proofs.YtgcmddaibnimjaaGreatDoor
namespace Go.Eng
open Go.RowKit Go.ChangeShapes Go.WideShapes
section
variable {H : Type} {he : TypeId × Value → H} {P : Program} {w : World} {base : Nat} {spare : Nat → Bool} {held : Bool}
theorem add_none (b o n : Nat) : (⟨b, o, none⟩ : Addr).add n = ⟨b, o + n, none⟩ := by
 unfold Addr.add
 by_cases h : n = 0 <;> simp [h]
end
end Go.Eng
namespace Go.Eng
open Go.RowKit Go.ChangeShapes Go.WideShapes
section
variable {H : Type} {enc : TypeId × Value → H} {P : Program}
theorem trodAll_again (hl : laidOutB P = true) {W W' : World} (hb : Below W.heap.size W W') : ∀ {ts : List TypeId} {vs : List Value} {ds : List (DataW H)} {ps : List MemPlace},
  (ts.all fun t => P.readableRec t && decide (t < P.types.size)) = true → (∀ p ∈ ps, p.block < W.heap.size) →
  DataW.TrodAll enc P W 0 (fun _ => true) true ts vs ds ps → DataW.TrodAll enc P W' 0 (fun b => decide (b < W.heap.size)) true ts vs ds ps
 | [], [], [], ps, _, _, h => h
 | t :: ts, v :: vs, d :: ds, ps, hr, hlt, ⟨p, q, h1, h2, e⟩ => by
  subst e
  simp only [List.all_cons, Bool.and_eq_true, decide_eq_true_eq] at hr
  refine ⟨p, q, Below.trod hl hr.1.1 hr.1.2 h1 hb fun x hx => hlt x (List.mem_append_left _ hx), trodAll_again hl hb hr.2 (fun x hx => hlt x (List.mem_append_right _ hx)) h2, rfl⟩
 | [], _ :: _, _, _, _, _, h => h.elim
 | [], [], _ :: _, _, _, _, h => h.elim
 | _ :: _, [], _, _, _, _, h => h.elim
 | _ :: _, _ :: _, [], _, _, _, h => h.elim
theorem shut_true {W : World} {base t : Nat} {sp : Nat → Bool} {held : Bool} (ht : P.underlying t = some .bool) : DataW.Trod enc P W base sp held t (.bool true) (.lit (.bool true)) [] := ⟨1, by simp [DataW.trod, Value.cells, ht]⟩
theorem post_true {f : Func} {s : ChangeSpec} {W W' : World} {args : Array Value} {ds : List (DataW H)} {before : List MemPlace} {t : TypeId}
  (hW : DataW.Whole enc P f.params.toList s.vars false W args.toList ds [] before) (hl : laidOutB P = true) (hr : (f.params.toList.all fun t => P.readableRec t && decide (t < P.types.size)) = true)
  (hv : s.vars = []) (hfr : (s.fn H (ds ++ [])).results = [.lit (.bool true)]) (hfa : (s.fn H (ds ++ [])).args = ds) (hfv : (s.fn H (ds ++ [])).vars = [])
  (hf : f.resultTypes = #[t]) (ht : P.underlying t = some .bool) (hb : Below W.heap.size W W') : s.post enc P f false true false false W args (.bool true) W' := by
 have hlt : ∀ p ∈ before, p.block < W.heap.size := fun p hp => hW.lt p hp
 have hW2 := hW
 obtain ⟨p, q, hA, hV, rfl, _, _⟩ := hW2
 rw [hv] at hV
 obtain ⟨_, rfl⟩ := trodVars_none hV
 rw [List.append_nil] at hlt
 refine ⟨ds, [], _, [], p, [], hW, ?_, ?_, ?_, hb.frame _, fun h => by cases h⟩
 ·rw [hfr, hf]
  exact trodAll_mk1 (shut_true ht)
 ·rw [hfa]
  exact trodAll_again hl hb hr hlt hA
 ·rw [hfv, hv]
  rfl
end
end Go.Eng
