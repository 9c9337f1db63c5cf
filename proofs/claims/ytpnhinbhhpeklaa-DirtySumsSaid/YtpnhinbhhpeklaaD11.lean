/- Walks of layer 27, eleventh part: the reference's cone; the mark. -/
import Derived.Test.YtpnhinbhhpeklaaD10
set_option linter.unusedVariables false
set_option linter.unusedSimpArgs false
namespace Go.Proofs.Ytpnhinbhhpeklaa
open Go.RowKit Go.Eng DirtyPlain

def AI4 (P : Program) : Bool := (P.info? 4).any fun i => Nat.beq i.size 1 && Nat.beq i.bytes 1 && i.zero.any fun v => match v with | .bool b => !b | _ => false
theorem info_ex {P : Program} (h : AI4 P = true) : ∃ i, P.info? 4 = some i ∧ i.zero = some (.bool false) ∧ i.size = 1 ∧ i.bytes = 1 := by
  unfold AI4 at h
  cases hi : P.info? 4 with
  | none => simp [hi] at h
  | some i =>
    simp only [hi, Option.any_some, Bool.and_eq_true] at h
    cases hz : i.zero with
    | none => simp [hz] at h
    | some v =>
      simp only [hz, Option.any_some] at h
      refine ⟨i, rfl, ?_, Nat.eq_of_beq_eq_true h.1.1, Nat.eq_of_beq_eq_true h.1.2⟩
      have h2 := h.2
      cases v <;> simp at h2
      rw [hz, h2]
theorem repB (n : Nat) : List.replicate n (Value.bool false) = (List.replicate n false).flatMap encB := by
  induction n with
  | zero => rfl
  | succ n ih => rw [List.replicate_succ, List.replicate_succ, List.flatMap_cons, ← ih]; rfl
theorem flatB (G : List Bool) : G.flatMap encB = G.map Value.bool := by
  induction G with
  | nil => rfl
  | cons g G ih => rw [List.flatMap_cons, ih]; rfl
theorem setB {G : List Bool} {k : Nat} {x : Bool} (h : k < G.length) : putl (G.flatMap encB) (0 + k * 1) (cellsOf (.bool x)) = (G.set k x).flatMap encB := by
  rw [flatB, flatB, Nat.zero_add, Nat.mul_one]
  refine List.ext_getElem? fun i => ?_
  rw [(putl_get _ _ _ (by show k + 1 ≤ _; simp; omega)).2 i]
  show (if k ≤ i ∧ i < k + 1 then [Value.bool x][i - k]? else _) = _
  rw [List.getElem?_map, List.getElem?_map, List.getElem?_set]
  by_cases hik : k = i
  · subst hik; simp [h]
  · rw [if_neg (by omega), if_neg hik]
theorem cellB {w0 w : World} {hs : List Res} {i b e k : Nat} {G : List Bool} (S : St w0 w hs) (h : nth hs i = some (bk b e (G.flatMap encB))) (hk : k < G.length) : w.cell? ⟨b, 0 + k * 1, none⟩ = some (.bool G[k]) :=
  S.cell h (by rw [nth_eq, flatB, Nat.zero_add, Nat.mul_one]; simp [hk])
def encI (n : Nat) : List Value := [.int .i64 (n : Int)]
theorem lenI (n : Nat) : (encI n).length = 1 := rfl
theorem bs71 {i : Int} (w : World) : (Instr.buildSlice 71 1 [(0, .int .i64 i)].toArray).run Try.prog w = .ok (.slice (some ⟨w.heap.size, 0, none⟩) 1 1) (w.alloc (.cells [.int .i64 i].toArray 3)) := by kernel_rfl
section
variable {L : List StpV} {l : List TrV} {cs : List Chg} {G : List Bool} {i : Nat}
theorem f17_n {SA A CA GA : Option Addr} {sc c cc gc : Nat} (L : List StpV) (l : List TrV) (cs : List Chg) (G : List Bool) (i : Nat) (w0 : World) (hS : Stps w0 SA L) (hSn : L.length ≤ 140737488351232) (hl : Trs w0 A l) (hln : l.length ≤ 140737488351232) (hC : Sl w0 2 encChg CA cs) (hCn : cs.length ≤ 140737488351232) (hG : Sl w0 1 encB GA G) (hGn : G.length = L.length) :
    Calls Try.prog 17 [.slice SA L.length sc, .slice A l.length c, .slice CA cs.length cc, .slice GA L.length gc, .int .i64 (i : Int)].toArray w0 (Ret fun v w' => v = .bool (inn (L.map StpV.outs) (l.map TrV.t) (cs.map Chg.path) G i) ∧ Below w0.heap.size w0 w') := by
  have h := f17_c (SA := SA) (A := A) (CA := CA) (GA := GA) (sc := sc) (c := c) (cc := cc) (gc := gc) L l cs G i w0 hS hSn hl hln hC hCn hG hGn
  rwa [hGn] at h
theorem ri_zero : RI (L.map StpV.outs) (l.map TrV.t) (cs.map Chg.path) 0 (List.replicate L.length false) := by
  have := RI.zero (S := L.map StpV.outs) (T := l.map TrV.t) (C := cs.map Chg.path)
  rwa [List.length_map] at this
end
section
variable {S : List (List ByteArray)} {T : List Tr} {C : List ByteArray}
theorem _root_.DirtyPlain.RI.rk {r : Nat} {F : List Bool} (h : RI S T C r F) : RK S T C r 0 F F := RK.zero h
theorem getD_at {G : List Bool} {k : Nat} (hk : k < G.length) : G.getD k false = G[k] := by simp [hk]
theorem _root_.DirtyPlain.RK.next_t {L : List StpV} {r k : Nat} {F G : List Bool} (h : RK (L.map StpV.outs) T C r k F G) (hk : k < L.length) (hkG : k < G.length) (hg : G[k] = true) : RK (L.map StpV.outs) T C r (k + 1) F (G.set k true) := by
  have := h.next (by simpa using hk)
  rwa [getD_at hkG, hg, Bool.true_or] at this
theorem _root_.DirtyPlain.RK.next_f {L : List StpV} {r k : Nat} {F G : List Bool} (h : RK (L.map StpV.outs) T C r k F G) (hk : k < L.length) (hkG : k < G.length) (hg : G[k] = false) : RK (L.map StpV.outs) T C r (k + 1) F (G.set k (inn (L.map StpV.outs) T C G k)) := by
  have := h.next (by simpa using hk)
  rwa [getD_at hkG, hg, Bool.false_or] at this
theorem rk_done {L : List StpV} {r k : Nat} {F G : List Bool} (h : RK (L.map StpV.outs) T C r k F G) (hk : k = L.length) : RI (L.map StpV.outs) T C (r + 1) G := by
  subst hk
  exact RK.done (F := F) (by rw [List.length_map]; exact h)
theorem _root_.DirtyPlain.RI.closed' {L : List StpV} {G : List Bool} (h : RI (L.map StpV.outs) T C (L.length + 1) G) : Closed (L.map StpV.outs) T C G := RI.closed (by rw [List.length_map]; exact h)
end
set_option maxRecDepth 2000
set_option maxHeartbeats 2000000 in
theorem f16_c {SA A CA : Option Addr} {sc c cc : Nat} (L : List StpV) (l : List TrV) (cs : List Chg) (w0 : World) (hS : Stps w0 SA L) (hSn : L.length ≤ 1000) (hl : Trs w0 A l) (hln : l.length ≤ 140737488351232) (hC : Sl w0 2 encChg CA cs) (hCn : cs.length ≤ 140737488351232) :
    Calls Try.prog 16 [.slice SA L.length sc, .slice A l.length c, .slice CA cs.length cc].toArray w0 (Ret fun v w' => (∃ b G, v = .slice (some ⟨b, 0, none⟩) L.length L.length ∧ Sound (L.map StpV.outs) (l.map TrV.t) (cs.map Chg.path) G ∧ Closed (L.map StpV.outs) (l.map TrV.t) (cs.map Chg.path) G ∧ w'.heap[b]? = some (.cells (G.flatMap encB).toArray 4 (0, 0)) ∧ w0.heap.size ≤ b) ∧ Below w0.heap.size w0 w') := by
  refine ent Try.func16 Try.ntmps16 rfl rfl ?_
  intro a F
  have S := St.refl w0
  refine sq fun K1 hK1 => ?_
  refine rg ?_
  refine dv F (y_as rfl rfl) rfl rfl rfl fun a F => ?_
  refine dn ?_
  refine tn <| hK1 _ _ ?_
  refine sq fun K2 hK2 => ?_
  refine rg ?_
  refine dv F (y_mv rfl rfl) rfl rfl rfl fun a F => ?_
  refine dv F (y_ln rfl rfl Try.underlying40) rfl rfl rfl fun a F => ?_
  refine dms F S rfl rfl rfl Try.underlying48 (info_ex (by kernel_rfl : AI4 Try.prog = true)) rfl (by omega) (by omega) rfl rfl rfl fun a w b12 F S => ?_
  rw [repB] at S
  refine dv F (y_as rfl rfl) rfl rfl rfl fun a F => ?_
  refine dn ?_
  refine tn <| hK2 _ _ ?_
  refine sq fun K3 hK3 => ?_
  refine sq fun K4 hK4 => ?_
  
  refine rg ?_
  refine dv F (y_as rfl rfl) rfl rfl rfl fun a F => ?_
  refine dn ?_
  refine tn <| hK4 _ _ ?_
  refine bl ?_
  refine lp (fun m a w => ∃ (r : Nat) (G0 : List Bool), m = L.length + 1 - r ∧ (r ≤ L.length + 1) ∧ (RI (L.map StpV.outs) (l.map TrV.t) (cs.map Chg.path) r G0) ∧ Fr 41 a [(0, .slice SA L.length sc), (1, .slice A l.length c), (2, .slice CA cs.length cc), (7, .slice (some ⟨b12, 0, none⟩) L.length L.length), (8, .int .i64 (r : Int))] ∧ St w0 w [bk b12 4 (G0.flatMap encB)]) (L.length + 1) ?_ ?_
  · exact ⟨0, _, rfl, Nat.zero_le _, ri_zero, F.sub _ ⟨rfl, rfl, rfl, rfl, rfl, trivial⟩, S.pick [0] _ ⟨rfl, trivial⟩ rfl⟩
  · rintro m a w ⟨r, G0, hm, hr, hRI, F, S⟩
    refine sq fun K5 hK5 => ?_
    refine sq fun K6 hK6 => ?_
    refine rg ?_
    refine dv F (y_mv rfl rfl) rfl rfl rfl fun a F => ?_
    refine dv F (y_mv rfl rfl) rfl rfl rfl fun a F => ?_
    refine dv F (y_ln rfl rfl Try.underlying40) rfl rfl rfl fun a F => ?_
    refine dv F (y_le rfl rfl rfl) rfl rfl rfl fun a F => ?_
    refine dn ?_
    refine tn <| hK6 _ _ ?_
    refine cd F rfl (fun h1 => ?_) (fun h1 => ?_)
    · refine wp_skip ?_
      refine tn <| hK5 _ _ ?_
      refine sq fun K7 hK7 => ?_
      refine bl ?_
      refine sq fun K8 hK8 => ?_
      refine rg ?_
      refine dv F (y_as rfl rfl) rfl rfl rfl fun a F => ?_
      refine dn ?_
      refine tn <| hK8 _ _ ?_
      refine bl ?_
      refine lp (fun m a w => ∃ (k : Nat) (G : List Bool), m = L.length - k ∧ (k ≤ L.length) ∧ (RK (L.map StpV.outs) (l.map TrV.t) (cs.map Chg.path) r k G0 G) ∧ Fr 41 a [(0, .slice SA L.length sc), (1, .slice A l.length c), (2, .slice CA cs.length cc), (7, .slice (some ⟨b12, 0, none⟩) L.length L.length), (8, .int .i64 (r : Int)), (9, .int .i64 (k : Int))] ∧ St w0 w [bk b12 4 (G.flatMap encB)]) (L.length) ?_ ?_
      · exact ⟨0, _, rfl, Nat.zero_le _, hRI.rk, F.sub _ ⟨rfl, rfl, rfl, rfl, rfl, rfl, trivial⟩, S.pick [0] _ ⟨rfl, trivial⟩ rfl⟩
      · rintro m a w ⟨k, G, hm, hk, hRK, F, S⟩
        refine sq fun K9 hK9 => ?_
        refine sq fun K10 hK10 => ?_
        refine rg ?_
        refine dv F (y_mv rfl rfl) rfl rfl rfl fun a F => ?_
        refine dv F (y_mv rfl rfl) rfl rfl rfl fun a F => ?_
        refine dv F (y_ln rfl rfl Try.underlying40) rfl rfl rfl fun a F => ?_
        refine dv F (y_lt rfl rfl rfl) rfl rfl rfl fun a F => ?_
        refine dn ?_
        refine tn <| hK10 _ _ ?_
        refine cd F rfl (fun h2 => ?_) (fun h2 => ?_)
        · refine wp_skip ?_
          refine tn <| hK9 _ _ ?_
          refine sq fun K11 hK11 => ?_
          refine bl ?_
          have hk2 : k < L.length := by omega
          have hGl : G.length = L.length := by rw [hRK.sd.len, List.length_map]
          have hkG : k < G.length := by omega
          refine rg ?_
          refine dv F (y_mv rfl rfl) rfl rfl rfl fun a F => ?_
          refine dv F (y_mv rfl rfl) rfl rfl rfl fun a F => ?_
          refine dv F (y_mv rfl rfl) rfl rfl rfl fun a F => ?_
          refine dv F (y_mv rfl rfl) rfl rfl rfl fun a F => ?_
          refine dv F (y_ia rfl rfl rfl rfl Try.underlying48 Try.sizeOf4 k rfl hk2) rfl rfl rfl fun a F => ?_
          refine dv F (y_ld rfl rfl (ld1 Try.isAgg4 (cellB S (i := 0) rfl hkG))) rfl rfl rfl fun a F => ?_
          refine dv F (y_mv rfl rfl) rfl rfl rfl fun a F => ?_
          rcases (show G[k] = true ∨ G[k] = false by cases G[k] <;> simp) with h7 | h7
          · refine gs F rfl rfl rfl h7 rfl rfl fun a F => ?_
            refine gs F rfl rfl rfl h7 rfl rfl fun a F => ?_
            refine gs F rfl rfl rfl h7 rfl rfl fun a F => ?_
            refine gs F rfl rfl rfl h7 rfl rfl fun a F => ?_
            refine gs F rfl rfl rfl h7 rfl rfl fun a F => ?_
            refine gs F rfl rfl rfl h7 rfl rfl fun a F => ?_
            refine dv F (y_pkt h7 rfl rfl rfl) rfl rfl rfl fun a F => ?_
            refine dv F (y_ia rfl rfl rfl rfl Try.underlying48 Try.sizeOf4 k rfl hk2) rfl rfl rfl fun a F => ?_
            refine dst F S rfl rfl rfl Try.sizeOf4 (i := 0) rfl rfl (by rw [flat_len lenB]; omega) one1 rfl rfl fun a w F S => ?_
            rw [setB (by omega)] at S
            refine dn ?_
            refine bn <| tn <| hK11 _ _ ?_
            refine rg ?_
            refine dv F (y_mv rfl rfl) rfl rfl rfl fun a F => ?_
            refine dv F (y_add rfl rfl rfl (by omega)) rfl rfl rfl fun a F => ?_
            refine dv F (y_as rfl rfl) rfl rfl rfl fun a F => ?_
            refine dn ?_
            exact ln (by omega) ⟨k + 1, _, rfl, by omega, by first | exact hRK.next_t hk2 hkG h7 | exact hRK.next_f hk2 hkG h7, F.sub _ ⟨rfl, rfl, rfl, rfl, rfl, rfl, trivial⟩, S.pick [0] _ ⟨rfl, trivial⟩ rfl⟩
          · refine gv F rfl rfl rfl h7 (y_mv rfl rfl) rfl rfl fun a F => ?_
            refine gv F rfl rfl rfl h7 (y_mv rfl rfl) rfl rfl fun a F => ?_
            refine gv F rfl rfl rfl h7 (y_mv rfl rfl) rfl rfl fun a F => ?_
            refine gv F rfl rfl rfl h7 (y_mv rfl rfl) rfl rfl fun a F => ?_
            refine gv F rfl rfl rfl h7 (y_mv rfl rfl) rfl rfl fun a F => ?_
            refine gc F rfl rfl rfl h7 (c_f rfl rfl rfl Try.call17) rfl rfl (f17_n L l cs G k _ (hS.st S) (by omega) (hl.st S) hln (hC.st S) hCn (S.sl (i := 0) rfl lenB) hGl) fun a v w' hr F => ?_
            obtain ⟨rfl, hb⟩ := hr
            replace S := S.call hb
            refine dv F (y_pkf h7 rfl rfl rfl) rfl rfl rfl fun a F => ?_
            refine dv F (y_ia rfl rfl rfl rfl Try.underlying48 Try.sizeOf4 k rfl hk2) rfl rfl rfl fun a F => ?_
            refine dst F S rfl rfl rfl Try.sizeOf4 (i := 0) rfl rfl (by rw [flat_len lenB]; omega) one1 rfl rfl fun a w F S => ?_
            rw [setB (by omega)] at S
            refine dn ?_
            refine bn <| tn <| hK11 _ _ ?_
            refine rg ?_
            refine dv F (y_mv rfl rfl) rfl rfl rfl fun a F => ?_
            refine dv F (y_add rfl rfl rfl (by omega)) rfl rfl rfl fun a F => ?_
            refine dv F (y_as rfl rfl) rfl rfl rfl fun a F => ?_
            refine dn ?_
            exact ln (by omega) ⟨k + 1, _, rfl, by omega, by first | exact hRK.next_t hk2 hkG h7 | exact hRK.next_f hk2 hkG h7, F.sub _ ⟨rfl, rfl, rfl, rfl, rfl, rfl, trivial⟩, S.pick [0] _ ⟨rfl, trivial⟩ rfl⟩
        · refine wp_exit ?_
          refine tx <| lx <| bh <| bn <| tn <| hK7 _ _ ?_
          refine rg ?_
          refine dv F (y_mv rfl rfl) rfl rfl rfl fun a F => ?_
          refine dv F (y_add rfl rfl rfl (by omega)) rfl rfl rfl fun a F => ?_
          refine dv F (y_as rfl rfl) rfl rfl rfl fun a F => ?_
          refine dn ?_
          exact ln (by omega) ⟨r + 1, _, rfl, by omega, rk_done hRK (by omega), F.sub _ ⟨rfl, rfl, rfl, rfl, rfl, trivial⟩, S.pick [0] _ ⟨rfl, trivial⟩ rfl⟩
    · obtain rfl : r = L.length + 1 := by omega
      refine wp_exit ?_
      refine tx <| lx <| bh <| tn <| hK3 _ _ ?_
      refine sq fun K12 hK12 => ?_
      refine rg ?_
      refine dv F (y_mv rfl rfl) rfl rfl rfl fun a F => ?_
      refine dv F (y_as rfl rfl) rfl rfl rfl fun a F => ?_
      refine dn ?_
      refine tn <| hK12 _ _ ?_
      refine wp_ret ?_
      refine ?_
      exact rt1 F rfl rfl ⟨⟨b12, G0, rfl, hRI.sd, hRI.closed', S.ok (i := 0) rfl, ((S.own 0 _ rfl).2 b12 rfl).1⟩, S.bel⟩

theorem f27_c {w0 W : World} {m : Res} {QA : Option Addr} {qc r b7 b11 n : Nat} (G : List Bool) (Q : List Nat) (i : Nat) (S : St w0 W [bk r 4 ((G).flatMap encB), bk b7 48 [.slice (some ⟨r, 0, none⟩) n n], bk b11 71 [.slice QA (Q).length qc], ow 3 1 (.slice QA (Q).length qc) (Q).length ((Q).flatMap encI), m]) (hi : i < n) (hG : G.length = n) (hQ : Q.length ≤ 100000) :
    Calls Try.prog 27 ([Value.int .i64 (i : Int)] ++ [Value.pointer (some ⟨b7, 0, none⟩), Value.pointer (some ⟨b11, 0, none⟩)]).toArray W (Ret fun v W' => ∃ QA' qc', St w0 W' [bk r 4 ((G.set i true).flatMap encB), bk b7 48 [.slice (some ⟨r, 0, none⟩) n n], bk b11 71 [.slice QA' (Q ++ [i]).length qc'], ow 3 1 (.slice QA' (Q ++ [i]).length qc') (Q ++ [i]).length ((Q ++ [i]).flatMap encI), m]) := by
  refine ent Try.func27 Try.ntmps27 rfl rfl ?_
  intro a F
  refine sq fun K1 hK1 => ?_
  refine rg ?_
  refine dv F (y_ld rfl rfl (S.ld (i := 1) rfl rfl Try.isAgg48)) rfl rfl rfl fun a F => ?_
  refine dv F (y_mv rfl rfl) rfl rfl rfl fun a F => ?_
  refine dv F (y_ia rfl rfl rfl rfl Try.underlying48 Try.sizeOf4 i rfl hi) rfl rfl rfl fun a F => ?_
  refine dst F S rfl rfl rfl Try.sizeOf4 (i := 0) rfl rfl (by rw [flat_len lenB]; omega) one1 rfl rfl fun a w F S => ?_
  rw [setB (by omega)] at S
  refine dn ?_
  refine tn <| hK1 _ _ ?_
  refine rg ?_
  refine dv F (y_ld rfl rfl (S.ld (i := 2) rfl rfl Try.isAgg71)) rfl rfl rfl fun a F => ?_
  refine dv F (y_mv rfl rfl) rfl rfl rfl fun a F => ?_
  refine dbs F S rfl rfl bs71 rfl rfl rfl fun a w b9 F S => ?_
  refine dap F S rfl rfl rfl (i := 3) rfl (S.fl (i := 5) rfl) rfl one1 Try.underlying71 (by kernel_rfl : AI Try.prog 3 1 8 = true) rfl (N := (Q ++ [i]).length) (XS := (Q ++ [i]).flatMap encI) (by simp) (by simp [encI]) (by simp; omega) (by simp; omega) rfl rfl rfl fun a w A2 c2 F S => ?_
  refine dsw F S rfl rfl rfl Try.sizeOf71 (i := 2) rfl rfl rfl rfl one1 rfl rfl fun a w F S => ?_
  refine dn ?_
  refine ?_
  exact rn0 F rfl ⟨_, _, S.pick [0, 1, 2, 3, 4] _ ⟨rfl, rfl, rfl, rfl, rfl, trivial⟩ rfl⟩

end Go.Proofs.Ytpnhinbhhpeklaa
