/- Walks of layer 27, thirteenth part: the laws DirtyCone, DirtyOutside. -/
import Derived.Test.YtpnhinbhhpeklaaD12
set_option linter.unusedVariables false
set_option linter.unusedSimpArgs false
namespace Go.Proofs.Ytpnhinbhhpeklaa
open Go.RowKit Go.Eng DirtyPlain

theorem _root_.Go.Eng.St.callRow {w0 w w' : World} {hs : List Res} {b e : Nat} {cs : List Value} (S : St w0 w hs) (hb : Below w.heap.size w w') (h : w'.heap[b]? = some (.cells cs.toArray e (0, 0))) (hlo : w.heap.size ≤ b) : St w0 w' (hs ++ [bk b e cs]) :=
  S.callAdd hb _ h fun k hk => by
    have : k = b := hk
    subst this
    exact ⟨hlo, (Array.getElem?_eq_some_iff.1 h).1⟩
section
variable {P : Program} {w : World} {l : List (Nat × Value)} {o : Oper}
theorem y_bn {t s : Nat} {x y : Operand} {p q : Bool} (ho : o.op = .binOp .neq t x y s) (hx : evl l x = some (.bool p)) (hy : evl l y = some (.bool q)) (ht : P.underlying t = some .bool) : Yl P o l w (.bool (!(p == q))) w := fun n a F => by
  simp only [execOp, ho, F.ev hx, F.ev hy]
  simp [eqGuard, run_neq_bool w t p q ht]
end
theorem bs41 (w : World) : (Instr.buildSlice 41 0 [].toArray).run Try.prog w = .ok (.slice (some ⟨w.heap.size, 0, none⟩) 0 0) (w.alloc (.cells [].toArray 70)) := by kernel_rfl
theorem wider {L : List StpV} {l : List TrV} {cs ds : List Chg} {G G' : List Bool} {k : Nat} (hs1 : Sound (L.map StpV.outs) (l.map TrV.t) (cs.map Chg.path) G) (hc1 : Closed (L.map StpV.outs) (l.map TrV.t) (cs.map Chg.path) G)
    (hs2 : Sound (L.map StpV.outs) (l.map TrV.t) ((cs ++ ds).map Chg.path) G') (hc2 : Closed (L.map StpV.outs) (l.map TrV.t) ((cs ++ ds).map Chg.path) G') (hk : k < G.length) (hk' : k < G'.length) (hkL : k < L.length) :
    (G[k] = true ∧ G'[k] = true) ∨ (G[k] = false ∧ inn (L.map StpV.outs) (l.map TrV.t) (cs.map Chg.path) G k = false) := by
  cases hg : G[k] with
  | true =>
    refine .inl ⟨rfl, ?_⟩
    have h1 := hs1.sound k (by rw [getD_at hk, hg])
    have h2 := (exact_of hs2 hc2 k).2 (h1.mono fun p hp => by rw [List.map_append]; exact List.mem_append_left _ hp)
    rwa [getD_at hk'] at h2
  | false =>
    refine .inr ⟨rfl, ?_⟩
    cases hi : inn (L.map StpV.outs) (l.map TrV.t) (cs.map Chg.path) G k with
    | false => rfl
    | true =>
      have := hc1 k (by rw [List.length_map]; exact hkL) hi
      rw [getD_at hk, hg] at this; cases this
set_option maxRecDepth 2000
set_option maxHeartbeats 2000000 in
theorem f6_c {SA A CA : Option Addr} {sc c cc : Nat} (L : List StpV) (l : List TrV) (cs : List Chg) (w0 : World) (hS : Stps w0 SA L) (hSn : L.length ≤ 140737488351232) (hl : Trs w0 A l) (hln : l.length ≤ 140737488351232) (hC : Sl w0 2 encChg CA cs) (hCn : cs.length ≤ 140737488351232) :
    Calls Try.prog 6 [.slice SA L.length sc, .slice A l.length c, .slice CA cs.length cc].toArray w0 (Ret fun v w' => v = .bool true ∧ Below w0.heap.size w0 w') := by
  refine ent Try.func6 Try.ntmps6 rfl rfl ?_
  intro a F
  have S := St.refl w0
  refine sq fun K1 hK1 => ?_
  refine rg ?_
  refine dv F (y_as rfl rfl) rfl rfl rfl fun a F => ?_
  refine dn ?_
  refine tn <| hK1 _ _ ?_
  refine sq fun K2 hK2 => ?_
  refine sq fun K3 hK3 => ?_
  refine rg ?_
  refine dc F (c_f rfl rfl rfl Try.call9) rfl rfl rfl (f9_c _) fun a v w' hr F => ?_
  obtain ⟨rfl, hb⟩ := hr
  replace S := S.call hb
  refine dv F (y_nt rfl rfl) rfl rfl rfl fun a F => ?_
  refine dn ?_
  refine tn <| hK3 _ _ ?_
  refine cf F rfl rfl ?_
  refine wp_skip ?_
  refine tn <| hK2 _ _ ?_
  refine sq fun K4 hK4 => ?_
  refine sq fun K5 hK5 => ?_
  rcases Nat.lt_or_ge 20 L.length with hn | hn
  · refine rg ?_
    refine dv F (y_mv rfl rfl) rfl rfl rfl fun a F => ?_
    refine dv F (y_ln rfl rfl Try.underlying40) rfl rfl rfl fun a F => ?_
    refine dv F (y_gt rfl rfl rfl) rfl rfl rfl fun a F => ?_
    refine dv F (y_mv rfl rfl) rfl rfl rfl fun a F => ?_
    refine gs F rfl rfl rfl (decide_eq_true (by omega)) rfl rfl fun a F => ?_
    refine gs F rfl rfl rfl (decide_eq_true (by omega)) rfl rfl fun a F => ?_
    refine dv F (y_pkt (decide_eq_true (by omega)) rfl rfl rfl) rfl rfl rfl fun a F => ?_
    refine dv F (y_mv rfl rfl) rfl rfl rfl fun a F => ?_
    refine gs F rfl rfl rfl rfl rfl rfl fun a F => ?_
    refine gs F rfl rfl rfl rfl rfl rfl fun a F => ?_
    refine gs F rfl rfl rfl rfl rfl rfl fun a F => ?_
    refine dv F (y_pkt rfl rfl rfl rfl) rfl rfl rfl fun a F => ?_
    refine dn ?_
    refine tn <| hK5 _ _ ?_
    refine ct F rfl rfl ?_
    refine sq fun K6 hK6 => ?_
    refine rg ?_
    refine dv F (y_as rfl rfl) rfl rfl rfl fun a F => ?_
    refine dn ?_
    refine tn <| hK6 _ _ ?_
    refine wp_ret ?_
    refine tr <| ?_
    exact rt1 F rfl rfl ⟨rfl, S.bel⟩
  · refine rg ?_
    refine dv F (y_mv rfl rfl) rfl rfl rfl fun a F => ?_
    refine dv F (y_ln rfl rfl Try.underlying40) rfl rfl rfl fun a F => ?_
    refine dv F (y_gt rfl rfl rfl) rfl rfl rfl fun a F => ?_
    refine dv F (y_mv rfl rfl) rfl rfl rfl fun a F => ?_
    refine gv F rfl rfl rfl (decide_eq_false (by omega)) (y_mv rfl rfl) rfl rfl fun a F => ?_
    refine gc F rfl rfl rfl (decide_eq_false (by omega)) (c_f rfl rfl rfl Try.call10) rfl rfl (f10_c l _ (hl.st S) hln) fun a v w' hr F => ?_
    obtain ⟨⟨b, rfl, hbb⟩, hb⟩ := hr
    replace S := S.call hb
    rcases (show b = true ∨ b = false by cases b <;> simp) with rfl | rfl
    · refine dv F (y_pkf (decide_eq_false (by omega)) rfl rfl rfl) rfl rfl rfl fun a F => ?_
      refine dv F (y_mv rfl rfl) rfl rfl rfl fun a F => ?_
      refine gs F rfl rfl rfl rfl rfl rfl fun a F => ?_
      refine gs F rfl rfl rfl rfl rfl rfl fun a F => ?_
      refine gs F rfl rfl rfl rfl rfl rfl fun a F => ?_
      refine dv F (y_pkt rfl rfl rfl rfl) rfl rfl rfl fun a F => ?_
      refine dn ?_
      refine tn <| hK5 _ _ ?_
      refine ct F rfl rfl ?_
      refine sq fun K7 hK7 => ?_
      refine rg ?_
      refine dv F (y_as rfl rfl) rfl rfl rfl fun a F => ?_
      refine dn ?_
      refine tn <| hK7 _ _ ?_
      refine wp_ret ?_
      refine tr <| ?_
      exact rt1 F rfl rfl ⟨rfl, S.bel⟩
    · refine dv F (y_pkf (decide_eq_false (by omega)) rfl rfl rfl) rfl rfl rfl fun a F => ?_
      refine dv F (y_mv rfl rfl) rfl rfl rfl fun a F => ?_
      refine gv F rfl rfl rfl rfl (y_mv rfl rfl) rfl rfl fun a F => ?_
      refine gv F rfl rfl rfl rfl (y_ln rfl rfl Try.underlying41) rfl rfl fun a F => ?_
      refine gv F rfl rfl rfl rfl (y_gt rfl rfl rfl) rfl rfl fun a F => ?_
      refine dv F (y_pkf rfl rfl rfl rfl) rfl rfl rfl fun a F => ?_
      refine dn ?_
      refine tn <| hK5 _ _ ?_
      refine cd F rfl (fun h1 => ?_) (fun h1 => ?_)
      · refine sq fun K8 hK8 => ?_
        refine rg ?_
        refine dv F (y_as rfl rfl) rfl rfl rfl fun a F => ?_
        refine dn ?_
        refine tn <| hK8 _ _ ?_
        refine wp_ret ?_
        refine tr <| ?_
        exact rt1 F rfl rfl ⟨rfl, S.bel⟩
      · refine wp_skip ?_
        refine tn <| hK4 _ _ ?_
        refine sq fun K9 hK9 => ?_
        refine sq fun K10 hK10 => ?_
        refine rg ?_
        refine dv F (y_as rfl rfl) rfl rfl rfl fun a F => ?_
        refine dn ?_
        refine tn <| hK10 _ _ ?_
        refine bl ?_
        refine lp (fun m a w => ∃ i : Nat, m = L.length - i ∧ (i ≤ L.length) ∧ Fr 66 a [(0, .slice SA L.length sc), (1, .slice A l.length c), (2, .slice CA cs.length cc), (7, .int .i64 (i : Int))] ∧ St w0 w []) (L.length) ?_ ?_
        · exact ⟨0, rfl, Nat.zero_le _, F.sub _ ⟨rfl, rfl, rfl, rfl, trivial⟩, S.pick [] _ trivial rfl⟩
        · rintro m a w ⟨i, hm, hi, F, S⟩
          refine sq fun K11 hK11 => ?_
          refine sq fun K12 hK12 => ?_
          refine rg ?_
          refine dv F (y_mv rfl rfl) rfl rfl rfl fun a F => ?_
          refine dv F (y_mv rfl rfl) rfl rfl rfl fun a F => ?_
          refine dv F (y_ln rfl rfl Try.underlying40) rfl rfl rfl fun a F => ?_
          refine dv F (y_lt rfl rfl rfl) rfl rfl rfl fun a F => ?_
          refine dn ?_
          refine tn <| hK12 _ _ ?_
          refine cd F rfl (fun h2 => ?_) (fun h2 => ?_)
          · refine wp_skip ?_
            refine tn <| hK11 _ _ ?_
            refine sq fun K13 hK13 => ?_
            refine bl ?_
            refine sq fun K14 hK14 => ?_
            have hi2 : i < L.length := by omega
            obtain ⟨sb, so, eS, hsb, _⟩ := (hS.st S).sl.at_ hi2
            refine rg ?_
            refine dv F (y_mv rfl rfl) rfl rfl rfl fun a F => ?_
            refine dv F (y_mv rfl rfl) rfl rfl rfl fun a F => ?_
            refine dv F (y_ia rfl rfl eS rfl Try.underlying40 Try.sizeOf47 i rfl hi2) rfl rfl rfl fun a F => ?_
            refine dv F (y_fa rfl rfl fi47_5) rfl rfl rfl fun a F => ?_
            refine dv F (y_ld rfl rfl (by
              obtain ⟨b', o', e, _, hcell⟩ := (hS.st S).sl.at_ hi2
              rw [eS] at e; cases e
              exact ld1 Try.isAgg45 (hcell 6 _ (stp6 _)))) rfl rfl rfl fun a F => ?_
            refine dv F (y_ln rfl rfl Try.underlying45) rfl rfl rfl fun a F => ?_
            refine dv F (y_gt rfl rfl rfl) rfl rfl rfl fun a F => ?_
            refine dn ?_
            refine tn <| hK14 _ _ ?_
            refine cd F rfl (fun h3 => ?_) (fun h3 => ?_)
            · refine sq fun K15 hK15 => ?_
              refine rg ?_
              refine dv F (y_as rfl rfl) rfl rfl rfl fun a F => ?_
              refine dn ?_
              refine tn <| hK15 _ _ ?_
              refine wp_ret ?_
              refine br <| tr <| lr <| br <| tr <| ?_
              exact rt1 F rfl rfl ⟨rfl, S.bel⟩
            · refine wp_skip ?_
              refine bn <| tn <| hK13 _ _ ?_
              refine rg ?_
              refine dv F (y_mv rfl rfl) rfl rfl rfl fun a F => ?_
              refine dv F (y_add rfl rfl rfl (by omega)) rfl rfl rfl fun a F => ?_
              refine dv F (y_as rfl rfl) rfl rfl rfl fun a F => ?_
              refine dn ?_
              exact ln (by omega) ⟨i + 1, rfl, by omega, F.sub _ ⟨rfl, rfl, rfl, rfl, trivial⟩, S.pick [] _ trivial rfl⟩
          · refine wp_exit ?_
            refine tx <| lx <| bh <| tn <| hK9 _ _ ?_
            refine sq fun K16 hK16 => ?_
            refine rg ?_
            refine dv F (y_mv rfl rfl) rfl rfl rfl fun a F => ?_
            refine dv F (y_mv rfl rfl) rfl rfl rfl fun a F => ?_
            refine dv F (y_mv rfl rfl) rfl rfl rfl fun a F => ?_
            refine dc F (c_f rfl rfl rfl Try.call15) rfl rfl rfl (f15_c L l cs _ (hS.st S) (by omega) (hl.st S) hln (hC.st S) hCn) fun a v w' hr F => ?_
            obtain ⟨⟨b1, G, rfl, hs1, hc1, hb1, hlo1⟩, hb⟩ := hr
            replace S := S.callRow hb hb1 hlo1
            refine dv F (y_mv rfl rfl) rfl rfl rfl fun a F => ?_
            refine dv F (y_mv rfl rfl) rfl rfl rfl fun a F => ?_
            refine dv F (y_mv rfl rfl) rfl rfl rfl fun a F => ?_
            refine dc F (c_f rfl rfl rfl Try.call16) rfl rfl rfl (f16_c L l cs _ (hS.st S) (by omega) (hl.st S) hln (hC.st S) hCn) fun a v w' hr F => ?_
            obtain ⟨⟨b2, G', rfl, hs2, hc2, hb2, hlo2⟩, hb⟩ := hr
            replace S := S.callRow hb hb2 hlo2
            obtain rfl := exact_eq hs1 hc1 hs2 hc2
            refine dv F (y_as rfl rfl) rfl rfl rfl fun a F => ?_
            refine dv F (y_as rfl rfl) rfl rfl rfl fun a F => ?_
            refine dn ?_
            refine tn <| hK16 _ _ ?_
            refine sq fun K17 hK17 => ?_
            refine sq fun K18 hK18 => ?_
            refine rg ?_
            refine dv F (y_mv rfl rfl) rfl rfl rfl fun a F => ?_
            refine dv F (y_ln rfl rfl Try.underlying48) rfl rfl rfl fun a F => ?_
            refine dv F (y_mv rfl rfl) rfl rfl rfl fun a F => ?_
            refine dv F (y_ln rfl rfl Try.underlying48) rfl rfl rfl fun a F => ?_
            refine dv F (y_in rfl rfl rfl) rfl rfl rfl fun a F => ?_
            refine dn ?_
            refine tn <| hK18 _ _ ?_
            refine cf F rfl (by simp) ?_
            refine wp_skip ?_
            refine tn <| hK17 _ _ ?_
            refine sq fun K19 hK19 => ?_
            refine sq fun K20 hK20 => ?_
            refine rg ?_
            refine dv F (y_as rfl rfl) rfl rfl rfl fun a F => ?_
            refine dn ?_
            refine tn <| hK20 _ _ ?_
            refine bl ?_
            refine lp (fun m a w => ∃ k : Nat, m = L.length - k ∧ (k ≤ L.length) ∧ Fr 66 a [(0, .slice SA L.length sc), (1, .slice A l.length c), (2, .slice CA cs.length cc), (8, .slice (some ⟨b1, 0, none⟩) L.length L.length), (9, .slice (some ⟨b2, 0, none⟩) L.length L.length), (10, .int .i64 (k : Int))] ∧ St w0 w [bk b1 4 (G.flatMap encB), bk b2 4 (G.flatMap encB)]) (L.length) ?_ ?_
            · exact ⟨0, rfl, Nat.zero_le _, F.sub _ ⟨rfl, rfl, rfl, rfl, rfl, rfl, trivial⟩, S.pick [0, 1] _ ⟨rfl, rfl, trivial⟩ rfl⟩
            · rintro m a w ⟨k, hm, hk, F, S⟩
              refine sq fun K21 hK21 => ?_
              refine sq fun K22 hK22 => ?_
              refine rg ?_
              refine dv F (y_mv rfl rfl) rfl rfl rfl fun a F => ?_
              refine dv F (y_mv rfl rfl) rfl rfl rfl fun a F => ?_
              refine dv F (y_ln rfl rfl Try.underlying48) rfl rfl rfl fun a F => ?_
              refine dv F (y_lt rfl rfl rfl) rfl rfl rfl fun a F => ?_
              refine dn ?_
              refine tn <| hK22 _ _ ?_
              refine cd F rfl (fun h4 => ?_) (fun h4 => ?_)
              · refine wp_skip ?_
                refine tn <| hK21 _ _ ?_
                refine sq fun K23 hK23 => ?_
                refine bl ?_
                refine sq fun K24 hK24 => ?_
                have hk2 : k < L.length := by omega
                have hkG : k < G.length := by rw [hs1.len, List.length_map]; exact hk2
                refine rq (C := fun w => St _ w _) Try.mixed (by kernel_rfl) (S.drewN 1) ?_
                refine qv F (fun w S => y_mv rfl rfl) rfl rfl rfl fun a F => ?_
                refine qv F (fun w S => y_mv rfl rfl) rfl rfl rfl fun a F => ?_
                refine qv F (fun w S => y_ia rfl rfl rfl rfl Try.underlying48 Try.sizeOf4 k rfl hk2) rfl rfl rfl fun a F => ?_
                refine qv F (fun w S => y_ld rfl rfl (ld1 Try.isAgg4 (cellB S (i := 0) rfl hkG))) rfl rfl rfl fun a F => ?_
                refine qv F (fun w S => y_mv rfl rfl) rfl rfl rfl fun a F => ?_
                refine qv F (fun w S => y_mv rfl rfl) rfl rfl rfl fun a F => ?_
                refine qv F (fun w S => y_ia rfl rfl rfl rfl Try.underlying48 Try.sizeOf4 k rfl hk2) rfl rfl rfl fun a F => ?_
                refine qv F (fun w S => y_ld rfl rfl (ld1 Try.isAgg4 (cellB S (i := 1) rfl hkG))) rfl rfl rfl fun a F => ?_
                refine qv F (fun w S => y_bn rfl rfl rfl Try.underlying4) rfl rfl rfl fun a F => ?_
                refine qn fun w S => ?_
                refine tn <| hK24 _ _ ?_
                refine cf F rfl (by simp) ?_
                refine wp_skip ?_
                refine bn <| tn <| hK23 _ _ ?_
                refine rg ?_
                refine dv F (y_mv rfl rfl) rfl rfl rfl fun a F => ?_
                refine dv F (y_add rfl rfl rfl (by omega)) rfl rfl rfl fun a F => ?_
                refine dv F (y_as rfl rfl) rfl rfl rfl fun a F => ?_
                refine dn ?_
                exact ln (by omega) ⟨k + 1, rfl, by omega, F.sub _ ⟨rfl, rfl, rfl, rfl, rfl, rfl, trivial⟩, S.pick [0, 1] _ ⟨rfl, rfl, trivial⟩ rfl⟩
              · refine wp_exit ?_
                refine tx <| lx <| bh <| tn <| hK19 _ _ ?_
                refine sq fun K25 hK25 => ?_
                refine rg ?_
                refine dv F (y_as rfl rfl) rfl rfl rfl fun a F => ?_
                refine dn ?_
                refine tn <| hK25 _ _ ?_
                refine wp_ret ?_
                refine ?_
                exact rt1 F rfl rfl ⟨rfl, S.bel⟩

theorem f7_c {SA A CA DA : Option Addr} {sc c cc ec : Nat} (L : List StpV) (l : List TrV) (cs ds : List Chg) (w0 : World) (hS : Stps w0 SA L) (hSn : L.length ≤ 140737488351232) (hl : Trs w0 A l) (hln : l.length ≤ 140737488351232) (hC : Sl w0 2 encChg CA cs) (hCn : cs.length ≤ 140737488351232) (hD : Sl w0 2 encChg DA ds) (hDn : ds.length ≤ 140737488351232) :
    Calls Try.prog 7 [.slice SA L.length sc, .slice A l.length c, .slice CA cs.length cc, .slice DA ds.length ec].toArray w0 (Ret fun v w' => v = .bool true ∧ Below w0.heap.size w0 w') := by
  refine ent Try.func7 Try.ntmps7 rfl rfl ?_
  intro a F
  have S := St.refl w0
  refine sq fun K1 hK1 => ?_
  refine rg ?_
  refine dv F (y_as rfl rfl) rfl rfl rfl fun a F => ?_
  refine dn ?_
  refine tn <| hK1 _ _ ?_
  refine sq fun K2 hK2 => ?_
  refine sq fun K3 hK3 => ?_
  refine rg ?_
  refine dc F (c_f rfl rfl rfl Try.call9) rfl rfl rfl (f9_c _) fun a v w' hr F => ?_
  obtain ⟨rfl, hb⟩ := hr
  replace S := S.call hb
  refine dv F (y_nt rfl rfl) rfl rfl rfl fun a F => ?_
  refine dn ?_
  refine tn <| hK3 _ _ ?_
  refine cf F rfl rfl ?_
  refine wp_skip ?_
  refine tn <| hK2 _ _ ?_
  refine sq fun K4 hK4 => ?_
  refine sq fun K5 hK5 => ?_
  rcases Nat.lt_or_ge 20 L.length with hn | hn
  · refine rg ?_
    refine dv F (y_mv rfl rfl) rfl rfl rfl fun a F => ?_
    refine dv F (y_ln rfl rfl Try.underlying40) rfl rfl rfl fun a F => ?_
    refine dv F (y_gt rfl rfl rfl) rfl rfl rfl fun a F => ?_
    refine dv F (y_mv rfl rfl) rfl rfl rfl fun a F => ?_
    refine gs F rfl rfl rfl (decide_eq_true (by omega)) rfl rfl fun a F => ?_
    refine gs F rfl rfl rfl (decide_eq_true (by omega)) rfl rfl fun a F => ?_
    refine dv F (y_pkt (decide_eq_true (by omega)) rfl rfl rfl) rfl rfl rfl fun a F => ?_
    refine dv F (y_mv rfl rfl) rfl rfl rfl fun a F => ?_
    refine gs F rfl rfl rfl rfl rfl rfl fun a F => ?_
    refine gs F rfl rfl rfl rfl rfl rfl fun a F => ?_
    refine gs F rfl rfl rfl rfl rfl rfl fun a F => ?_
    refine dv F (y_pkt rfl rfl rfl rfl) rfl rfl rfl fun a F => ?_
    refine dv F (y_mv rfl rfl) rfl rfl rfl fun a F => ?_
    refine gs F rfl rfl rfl rfl rfl rfl fun a F => ?_
    refine gs F rfl rfl rfl rfl rfl rfl fun a F => ?_
    refine gs F rfl rfl rfl rfl rfl rfl fun a F => ?_
    refine dv F (y_pkt rfl rfl rfl rfl) rfl rfl rfl fun a F => ?_
    refine dn ?_
    refine tn <| hK5 _ _ ?_
    refine ct F rfl rfl ?_
    refine sq fun K6 hK6 => ?_
    refine rg ?_
    refine dv F (y_as rfl rfl) rfl rfl rfl fun a F => ?_
    refine dn ?_
    refine tn <| hK6 _ _ ?_
    refine wp_ret ?_
    refine tr <| ?_
    exact rt1 F rfl rfl ⟨rfl, S.bel⟩
  · refine rg ?_
    refine dv F (y_mv rfl rfl) rfl rfl rfl fun a F => ?_
    refine dv F (y_ln rfl rfl Try.underlying40) rfl rfl rfl fun a F => ?_
    refine dv F (y_gt rfl rfl rfl) rfl rfl rfl fun a F => ?_
    refine dv F (y_mv rfl rfl) rfl rfl rfl fun a F => ?_
    refine gv F rfl rfl rfl (decide_eq_false (by omega)) (y_mv rfl rfl) rfl rfl fun a F => ?_
    refine gc F rfl rfl rfl (decide_eq_false (by omega)) (c_f rfl rfl rfl Try.call10) rfl rfl (f10_c l _ (hl.st S) hln) fun a v w' hr F => ?_
    obtain ⟨⟨b, rfl, hbb⟩, hb⟩ := hr
    replace S := S.call hb
    rcases (show b = true ∨ (b = false ∧ 40 < cs.length) ∨ (b = false ∧ cs.length ≤ 40) by cases b <;> simp <;> omega) with rfl | ⟨rfl, hc40⟩ | ⟨rfl, hc40⟩
    · refine dv F (y_pkf (decide_eq_false (by omega)) rfl rfl rfl) rfl rfl rfl fun a F => ?_
      refine dv F (y_mv rfl rfl) rfl rfl rfl fun a F => ?_
      refine gs F rfl rfl rfl rfl rfl rfl fun a F => ?_
      refine gs F rfl rfl rfl rfl rfl rfl fun a F => ?_
      refine gs F rfl rfl rfl rfl rfl rfl fun a F => ?_
      refine dv F (y_pkt rfl rfl rfl rfl) rfl rfl rfl fun a F => ?_
      refine dv F (y_mv rfl rfl) rfl rfl rfl fun a F => ?_
      refine gs F rfl rfl rfl rfl rfl rfl fun a F => ?_
      refine gs F rfl rfl rfl rfl rfl rfl fun a F => ?_
      refine gs F rfl rfl rfl rfl rfl rfl fun a F => ?_
      refine dv F (y_pkt rfl rfl rfl rfl) rfl rfl rfl fun a F => ?_
      refine dn ?_
      refine tn <| hK5 _ _ ?_
      refine ct F rfl rfl ?_
      refine sq fun K7 hK7 => ?_
      refine rg ?_
      refine dv F (y_as rfl rfl) rfl rfl rfl fun a F => ?_
      refine dn ?_
      refine tn <| hK7 _ _ ?_
      refine wp_ret ?_
      refine tr <| ?_
      exact rt1 F rfl rfl ⟨rfl, S.bel⟩
    · refine dv F (y_pkf (decide_eq_false (by omega)) rfl rfl rfl) rfl rfl rfl fun a F => ?_
      refine dv F (y_mv rfl rfl) rfl rfl rfl fun a F => ?_
      refine gv F rfl rfl rfl rfl (y_mv rfl rfl) rfl rfl fun a F => ?_
      refine gv F rfl rfl rfl rfl (y_ln rfl rfl Try.underlying41) rfl rfl fun a F => ?_
      refine gv F rfl rfl rfl rfl (y_gt rfl rfl rfl) rfl rfl fun a F => ?_
      refine dv F (y_pkf rfl rfl rfl rfl) rfl rfl rfl fun a F => ?_
      refine dv F (y_mv rfl rfl) rfl rfl rfl fun a F => ?_
      refine gs F rfl rfl rfl (decide_eq_true (by omega)) rfl rfl fun a F => ?_
      refine gs F rfl rfl rfl (decide_eq_true (by omega)) rfl rfl fun a F => ?_
      refine gs F rfl rfl rfl (decide_eq_true (by omega)) rfl rfl fun a F => ?_
      refine dv F (y_pkt (decide_eq_true (by omega)) rfl rfl rfl) rfl rfl rfl fun a F => ?_
      refine dn ?_
      refine tn <| hK5 _ _ ?_
      refine ct F rfl rfl ?_
      refine sq fun K8 hK8 => ?_
      refine rg ?_
      refine dv F (y_as rfl rfl) rfl rfl rfl fun a F => ?_
      refine dn ?_
      refine tn <| hK8 _ _ ?_
      refine wp_ret ?_
      refine tr <| ?_
      exact rt1 F rfl rfl ⟨rfl, S.bel⟩
    · refine dv F (y_pkf (decide_eq_false (by omega)) rfl rfl rfl) rfl rfl rfl fun a F => ?_
      refine dv F (y_mv rfl rfl) rfl rfl rfl fun a F => ?_
      refine gv F rfl rfl rfl rfl (y_mv rfl rfl) rfl rfl fun a F => ?_
      refine gv F rfl rfl rfl rfl (y_ln rfl rfl Try.underlying41) rfl rfl fun a F => ?_
      refine gv F rfl rfl rfl rfl (y_gt rfl rfl rfl) rfl rfl fun a F => ?_
      refine dv F (y_pkf rfl rfl rfl rfl) rfl rfl rfl fun a F => ?_
      refine dv F (y_mv rfl rfl) rfl rfl rfl fun a F => ?_
      refine gv F rfl rfl rfl (decide_eq_false (by omega)) (y_mv rfl rfl) rfl rfl fun a F => ?_
      refine gv F rfl rfl rfl (decide_eq_false (by omega)) (y_ln rfl rfl Try.underlying41) rfl rfl fun a F => ?_
      refine gv F rfl rfl rfl (decide_eq_false (by omega)) (y_gt rfl rfl rfl) rfl rfl fun a F => ?_
      refine dv F (y_pkf (decide_eq_false (by omega)) rfl rfl rfl) rfl rfl rfl fun a F => ?_
      refine dn ?_
      refine tn <| hK5 _ _ ?_
      refine cd F rfl (fun h1 => ?_) (fun h1 => ?_)
      · refine sq fun K9 hK9 => ?_
        refine rg ?_
        refine dv F (y_as rfl rfl) rfl rfl rfl fun a F => ?_
        refine dn ?_
        refine tn <| hK9 _ _ ?_
        refine wp_ret ?_
        refine tr <| ?_
        exact rt1 F rfl rfl ⟨rfl, S.bel⟩
      · refine wp_skip ?_
        refine tn <| hK4 _ _ ?_
        refine sq fun K10 hK10 => ?_
        refine sq fun K11 hK11 => ?_
        refine rg ?_
        refine dv F (y_as rfl rfl) rfl rfl rfl fun a F => ?_
        refine dn ?_
        refine tn <| hK11 _ _ ?_
        refine bl ?_
        refine lp (fun m a w => ∃ i : Nat, m = L.length - i ∧ (i ≤ L.length) ∧ Fr 101 a [(0, .slice SA L.length sc), (1, .slice A l.length c), (2, .slice CA cs.length cc), (3, .slice DA ds.length ec), (9, .int .i64 (i : Int))] ∧ St w0 w []) (L.length) ?_ ?_
        · exact ⟨0, rfl, Nat.zero_le _, F.sub _ ⟨rfl, rfl, rfl, rfl, rfl, trivial⟩, S.pick [] _ trivial rfl⟩
        · rintro m a w ⟨i, hm, hi, F, S⟩
          refine sq fun K12 hK12 => ?_
          refine sq fun K13 hK13 => ?_
          refine rg ?_
          refine dv F (y_mv rfl rfl) rfl rfl rfl fun a F => ?_
          refine dv F (y_mv rfl rfl) rfl rfl rfl fun a F => ?_
          refine dv F (y_ln rfl rfl Try.underlying40) rfl rfl rfl fun a F => ?_
          refine dv F (y_lt rfl rfl rfl) rfl rfl rfl fun a F => ?_
          refine dn ?_
          refine tn <| hK13 _ _ ?_
          refine cd F rfl (fun h2 => ?_) (fun h2 => ?_)
          · refine wp_skip ?_
            refine tn <| hK12 _ _ ?_
            refine sq fun K14 hK14 => ?_
            refine bl ?_
            refine sq fun K15 hK15 => ?_
            have hi2 : i < L.length := by omega
            obtain ⟨sb, so, eS, hsb, _⟩ := (hS.st S).sl.at_ hi2
            refine rg ?_
            refine dv F (y_mv rfl rfl) rfl rfl rfl fun a F => ?_
            refine dv F (y_mv rfl rfl) rfl rfl rfl fun a F => ?_
            refine dv F (y_ia rfl rfl eS rfl Try.underlying40 Try.sizeOf47 i rfl hi2) rfl rfl rfl fun a F => ?_
            refine dv F (y_fa rfl rfl fi47_5) rfl rfl rfl fun a F => ?_
            refine dv F (y_ld rfl rfl (by
              obtain ⟨b', o', e, _, hcell⟩ := (hS.st S).sl.at_ hi2
              rw [eS] at e; cases e
              exact ld1 Try.isAgg45 (hcell 6 _ (stp6 _)))) rfl rfl rfl fun a F => ?_
            refine dv F (y_ln rfl rfl Try.underlying45) rfl rfl rfl fun a F => ?_
            refine dv F (y_gt rfl rfl rfl) rfl rfl rfl fun a F => ?_
            refine dn ?_
            refine tn <| hK15 _ _ ?_
            refine cd F rfl (fun h3 => ?_) (fun h3 => ?_)
            · refine sq fun K16 hK16 => ?_
              refine rg ?_
              refine dv F (y_as rfl rfl) rfl rfl rfl fun a F => ?_
              refine dn ?_
              refine tn <| hK16 _ _ ?_
              refine wp_ret ?_
              refine br <| tr <| lr <| br <| tr <| ?_
              exact rt1 F rfl rfl ⟨rfl, S.bel⟩
            · refine wp_skip ?_
              refine bn <| tn <| hK14 _ _ ?_
              refine rg ?_
              refine dv F (y_mv rfl rfl) rfl rfl rfl fun a F => ?_
              refine dv F (y_add rfl rfl rfl (by omega)) rfl rfl rfl fun a F => ?_
              refine dv F (y_as rfl rfl) rfl rfl rfl fun a F => ?_
              refine dn ?_
              exact ln (by omega) ⟨i + 1, rfl, by omega, F.sub _ ⟨rfl, rfl, rfl, rfl, rfl, trivial⟩, S.pick [] _ trivial rfl⟩
          · refine wp_exit ?_
            refine tx <| lx <| bh <| tn <| hK10 _ _ ?_
            refine sq fun K17 hK17 => ?_
            refine rg ?_
            refine dv F (y_mv rfl rfl) rfl rfl rfl fun a F => ?_
            refine dv F (y_mv rfl rfl) rfl rfl rfl fun a F => ?_
            refine dv F (y_mv rfl rfl) rfl rfl rfl fun a F => ?_
            refine dc F (c_f rfl rfl rfl Try.call15) rfl rfl rfl (f15_c L l cs _ (hS.st S) (by omega) (hl.st S) hln (hC.st S) hCn) fun a v w' hr F => ?_
            obtain ⟨⟨b1, G, rfl, hs1, hc1, hb1, hlo1⟩, hb⟩ := hr
            replace S := S.callRow hb hb1 hlo1
            refine dv F (y_as rfl rfl) rfl rfl rfl fun a F => ?_
            refine dn ?_
            refine tn <| hK17 _ _ ?_
            refine sq fun K18 hK18 => ?_
            refine rg ?_
            refine dv F (y_mv rfl rfl) rfl rfl rfl fun a F => ?_
            refine dv F (y_mv rfl rfl) rfl rfl rfl fun a F => ?_
            refine dbs F S rfl rfl bs41 rfl rfl rfl fun a w b51 F S => ?_
            refine dv F (y_mv rfl rfl) rfl rfl rfl fun a F => ?_
            replace S := ow_of_bk S (i := 1) (n := 0) (z := 2) rfl rfl (Nat.zero_le _)
            refine dap F S rfl rfl rfl (i := 1) rfl ((hC.st S).fl len70) (flat_len len70 _) (allflat one70 _) Try.underlying41 (by kernel_rfl : AI Try.prog 70 2 24 = true) rfl (N := cs.length) (XS := cs.flatMap encChg) (Nat.zero_add _) rfl (by omega) (by omega) rfl rfl rfl fun a w A1 c1 F S => ?_
            refine dv F (y_mv rfl rfl) rfl rfl rfl fun a F => ?_
            refine dap F S rfl rfl rfl (i := 1) rfl ((hD.st S).fl len70) (flat_len len70 _) (allflat one70 _) Try.underlying41 (by kernel_rfl : AI Try.prog 70 2 24 = true) rfl (N := (cs ++ ds).length) (XS := (cs ++ ds).flatMap encChg) List.length_append.symm List.flatMap_append.symm (by rw [List.length_append]; omega) (by rw [List.length_append]; omega) rfl rfl rfl fun a w A2 c2 F S => ?_
            refine dc F (c_f rfl rfl rfl Try.call15) rfl rfl rfl (f15_c L l (cs ++ ds) _ (hS.st S) (by omega) (hl.st S) hln (S.ows (i := 1) rfl len70 (by decide)) (by rw [List.length_append]; omega)) fun a v w' hr F => ?_
            obtain ⟨⟨b2, G', rfl, hs2, hc2, hb2, hlo2⟩, hb⟩ := hr
            replace S := S.callRow hb hb2 hlo2
            refine dv F (y_as rfl rfl) rfl rfl rfl fun a F => ?_
            refine dn ?_
            refine tn <| hK18 _ _ ?_
            refine sq fun K19 hK19 => ?_
            refine sq fun K20 hK20 => ?_
            refine rg ?_
            refine dv F (y_mv rfl rfl) rfl rfl rfl fun a F => ?_
            refine dv F (y_ln rfl rfl Try.underlying48) rfl rfl rfl fun a F => ?_
            refine dv F (y_mv rfl rfl) rfl rfl rfl fun a F => ?_
            refine dv F (y_ln rfl rfl Try.underlying40) rfl rfl rfl fun a F => ?_
            refine dv F (y_in rfl rfl rfl) rfl rfl rfl fun a F => ?_
            refine dv F (y_mv rfl rfl) rfl rfl rfl fun a F => ?_
            refine gv F rfl rfl rfl (by simp) (y_mv rfl rfl) rfl rfl fun a F => ?_
            refine gv F rfl rfl rfl (by simp) (y_ln rfl rfl Try.underlying48) rfl rfl fun a F => ?_
            refine gv F rfl rfl rfl (by simp) (y_mv rfl rfl) rfl rfl fun a F => ?_
            refine gv F rfl rfl rfl (by simp) (y_ln rfl rfl Try.underlying40) rfl rfl fun a F => ?_
            refine gv F rfl rfl rfl (by simp) (y_in rfl rfl rfl) rfl rfl fun a F => ?_
            refine dv F (y_pkf (by simp) rfl rfl rfl) rfl rfl rfl fun a F => ?_
            refine dn ?_
            refine tn <| hK20 _ _ ?_
            refine cf F rfl (by simp) ?_
            refine wp_skip ?_
            refine tn <| hK19 _ _ ?_
            refine sq fun K21 hK21 => ?_
            refine sq fun K22 hK22 => ?_
            refine rg ?_
            refine dv F (y_as rfl rfl) rfl rfl rfl fun a F => ?_
            refine dn ?_
            refine tn <| hK22 _ _ ?_
            refine bl ?_
            refine lp (fun m a w => ∃ k : Nat, m = L.length - k ∧ (k ≤ L.length) ∧ Fr 101 a [(0, .slice SA L.length sc), (1, .slice A l.length c), (2, .slice CA cs.length cc), (10, .slice (some ⟨b1, 0, none⟩) L.length L.length), (11, .slice (some ⟨b2, 0, none⟩) L.length L.length), (12, .int .i64 (k : Int))] ∧ St w0 w [bk b1 4 (G.flatMap encB), bk b2 4 (G'.flatMap encB)]) (L.length) ?_ ?_
            · exact ⟨0, rfl, Nat.zero_le _, F.sub _ ⟨rfl, rfl, rfl, rfl, rfl, rfl, trivial⟩, S.pick [0, 2] _ ⟨rfl, rfl, trivial⟩ rfl⟩
            · rintro m a w ⟨k, hm, hk, F, S⟩
              refine sq fun K23 hK23 => ?_
              refine sq fun K24 hK24 => ?_
              refine rg ?_
              refine dv F (y_mv rfl rfl) rfl rfl rfl fun a F => ?_
              refine dv F (y_mv rfl rfl) rfl rfl rfl fun a F => ?_
              refine dv F (y_ln rfl rfl Try.underlying40) rfl rfl rfl fun a F => ?_
              refine dv F (y_lt rfl rfl rfl) rfl rfl rfl fun a F => ?_
              refine dn ?_
              refine tn <| hK24 _ _ ?_
              refine cd F rfl (fun h4 => ?_) (fun h4 => ?_)
              · refine wp_skip ?_
                refine tn <| hK23 _ _ ?_
                refine sq fun K25 hK25 => ?_
                refine bl ?_
                refine sq fun K26 hK26 => ?_
                have hk2 : k < L.length := by omega
                have hGl : G.length = L.length := by rw [hs1.len, List.length_map]
                have hkG : k < G.length := by omega
                have hkG' : k < G'.length := by rw [hs2.len, List.length_map]; exact hk2
                rcases wider hs1 hc1 hs2 hc2 hkG hkG' hk2 with ⟨h7, h8⟩ | ⟨h7, h8⟩
                · refine rg ?_
                  refine dv F (y_mv rfl rfl) rfl rfl rfl fun a F => ?_
                  refine dv F (y_mv rfl rfl) rfl rfl rfl fun a F => ?_
                  refine dv F (y_ia rfl rfl rfl rfl Try.underlying48 Try.sizeOf4 k rfl hk2) rfl rfl rfl fun a F => ?_
                  refine dv F (y_ld rfl rfl (ld1 Try.isAgg4 (cellB S (i := 0) rfl hkG))) rfl rfl rfl fun a F => ?_
                  refine dv F (y_mv rfl rfl) rfl rfl rfl fun a F => ?_
                  refine gv F rfl rfl rfl h7 (y_mv rfl rfl) rfl rfl fun a F => ?_
                  refine gv F rfl rfl rfl h7 (y_mv rfl rfl) rfl rfl fun a F => ?_
                  refine gv F rfl rfl rfl h7 (y_ia rfl rfl rfl rfl Try.underlying48 Try.sizeOf4 k rfl hk2) rfl rfl fun a F => ?_
                  refine gv F rfl rfl rfl h7 (y_ld rfl rfl (ld1 Try.isAgg4 (cellB S (i := 1) rfl hkG'))) rfl rfl fun a F => ?_
                  refine gv F rfl rfl rfl h7 (y_nt rfl rfl) rfl rfl fun a F => ?_
                  refine dv F (y_pkt h7 rfl rfl rfl) rfl rfl rfl fun a F => ?_
                  refine dv F (y_mv rfl rfl) rfl rfl rfl fun a F => ?_
                  refine gv F rfl rfl rfl (by simp [h8]) (y_mv rfl rfl) rfl rfl fun a F => ?_
                  refine gv F rfl rfl rfl (by simp [h8]) (y_mv rfl rfl) rfl rfl fun a F => ?_
                  refine gv F rfl rfl rfl (by simp [h8]) (y_ia rfl rfl rfl rfl Try.underlying48 Try.sizeOf4 k rfl hk2) rfl rfl fun a F => ?_
                  refine gv F rfl rfl rfl (by simp [h8]) (y_ld rfl rfl (ld1 Try.isAgg4 (cellB S (i := 0) rfl hkG))) rfl rfl fun a F => ?_
                  refine gv F rfl rfl rfl (by simp [h8]) (y_nt rfl rfl) rfl rfl fun a F => ?_
                  refine gv F rfl rfl rfl (by simp [h8]) (y_mv rfl rfl) rfl rfl fun a F => ?_
                  refine gs F rfl rfl rfl (by simp [h7]) rfl rfl fun a F => ?_
                  refine gs F rfl rfl rfl (by simp [h7]) rfl rfl fun a F => ?_
                  refine gs F rfl rfl rfl (by simp [h7]) rfl rfl fun a F => ?_
                  refine gs F rfl rfl rfl (by simp [h7]) rfl rfl fun a F => ?_
                  refine gs F rfl rfl rfl (by simp [h7]) rfl rfl fun a F => ?_
                  refine gs F rfl rfl rfl (by simp [h7]) rfl rfl fun a F => ?_
                  refine gv F rfl rfl rfl (by simp [h8]) (y_pkf (by simp [h7]) rfl rfl rfl) rfl rfl fun a F => ?_
                  refine dv F (y_pkf (by simp [h8]) rfl rfl rfl) rfl rfl rfl fun a F => ?_
                  refine dn ?_
                  refine tn <| hK26 _ _ ?_
                  refine cf F rfl rfl ?_
                  refine wp_skip ?_
                  refine bn <| tn <| hK25 _ _ ?_
                  refine rg ?_
                  refine dv F (y_mv rfl rfl) rfl rfl rfl fun a F => ?_
                  refine dv F (y_add rfl rfl rfl (by omega)) rfl rfl rfl fun a F => ?_
                  refine dv F (y_as rfl rfl) rfl rfl rfl fun a F => ?_
                  refine dn ?_
                  exact ln (by omega) ⟨k + 1, rfl, by omega, F.sub _ ⟨rfl, rfl, rfl, rfl, rfl, rfl, trivial⟩, S.pick [0, 1] _ ⟨rfl, rfl, trivial⟩ rfl⟩
                · refine rg ?_
                  refine dv F (y_mv rfl rfl) rfl rfl rfl fun a F => ?_
                  refine dv F (y_mv rfl rfl) rfl rfl rfl fun a F => ?_
                  refine dv F (y_ia rfl rfl rfl rfl Try.underlying48 Try.sizeOf4 k rfl hk2) rfl rfl rfl fun a F => ?_
                  refine dv F (y_ld rfl rfl (ld1 Try.isAgg4 (cellB S (i := 0) rfl hkG))) rfl rfl rfl fun a F => ?_
                  refine dv F (y_mv rfl rfl) rfl rfl rfl fun a F => ?_
                  refine gs F rfl rfl rfl h7 rfl rfl fun a F => ?_
                  refine gs F rfl rfl rfl h7 rfl rfl fun a F => ?_
                  refine gs F rfl rfl rfl h7 rfl rfl fun a F => ?_
                  refine gs F rfl rfl rfl h7 rfl rfl fun a F => ?_
                  refine gs F rfl rfl rfl h7 rfl rfl fun a F => ?_
                  refine dv F (y_pkf h7 rfl rfl rfl) rfl rfl rfl fun a F => ?_
                  refine dv F (y_mv rfl rfl) rfl rfl rfl fun a F => ?_
                  refine gv F rfl rfl rfl rfl (y_mv rfl rfl) rfl rfl fun a F => ?_
                  refine gv F rfl rfl rfl rfl (y_mv rfl rfl) rfl rfl fun a F => ?_
                  refine gv F rfl rfl rfl rfl (y_ia rfl rfl rfl rfl Try.underlying48 Try.sizeOf4 k rfl hk2) rfl rfl fun a F => ?_
                  refine gv F rfl rfl rfl rfl (y_ld rfl rfl (ld1 Try.isAgg4 (cellB S (i := 0) rfl hkG))) rfl rfl fun a F => ?_
                  refine gv F rfl rfl rfl rfl (y_nt rfl rfl) rfl rfl fun a F => ?_
                  refine gv F rfl rfl rfl rfl (y_mv rfl rfl) rfl rfl fun a F => ?_
                  refine gv F rfl rfl rfl (by simp [h7]) (y_mv rfl rfl) rfl rfl fun a F => ?_
                  refine gv F rfl rfl rfl (by simp [h7]) (y_mv rfl rfl) rfl rfl fun a F => ?_
                  refine gv F rfl rfl rfl (by simp [h7]) (y_mv rfl rfl) rfl rfl fun a F => ?_
                  refine gv F rfl rfl rfl (by simp [h7]) (y_mv rfl rfl) rfl rfl fun a F => ?_
                  refine gv F rfl rfl rfl (by simp [h7]) (y_mv rfl rfl) rfl rfl fun a F => ?_
                  refine gc F rfl rfl rfl (by simp [h7]) (c_f rfl rfl rfl Try.call17) rfl rfl (f17_n L l cs G k _ (hS.st S) (by omega) (hl.st S) hln (hC.st S) hCn (S.sl (i := 0) rfl lenB) hGl) fun a v w' hr F => ?_
                  obtain ⟨rfl, hb⟩ := hr
                  replace S := S.call hb
                  refine gv F rfl rfl rfl rfl (y_pkt (by simp [h7]) rfl rfl rfl) rfl rfl fun a F => ?_
                  refine dv F (y_pkf rfl rfl rfl rfl) rfl rfl rfl fun a F => ?_
                  refine dn ?_
                  refine tn <| hK26 _ _ ?_
                  refine cf F rfl h8 ?_
                  refine wp_skip ?_
                  refine bn <| tn <| hK25 _ _ ?_
                  refine rg ?_
                  refine dv F (y_mv rfl rfl) rfl rfl rfl fun a F => ?_
                  refine dv F (y_add rfl rfl rfl (by omega)) rfl rfl rfl fun a F => ?_
                  refine dv F (y_as rfl rfl) rfl rfl rfl fun a F => ?_
                  refine dn ?_
                  exact ln (by omega) ⟨k + 1, rfl, by omega, F.sub _ ⟨rfl, rfl, rfl, rfl, rfl, rfl, trivial⟩, S.pick [0, 1] _ ⟨rfl, rfl, trivial⟩ rfl⟩
              · refine wp_exit ?_
                refine tx <| lx <| bh <| tn <| hK21 _ _ ?_
                refine sq fun K27 hK27 => ?_
                refine rg ?_
                refine dv F (y_as rfl rfl) rfl rfl rfl fun a F => ?_
                refine dn ?_
                refine tn <| hK27 _ _ ?_
                refine wp_ret ?_
                refine ?_
                exact rt1 F rfl rfl ⟨rfl, S.bel⟩

end Go.Proofs.Ytpnhinbhhpeklaa
