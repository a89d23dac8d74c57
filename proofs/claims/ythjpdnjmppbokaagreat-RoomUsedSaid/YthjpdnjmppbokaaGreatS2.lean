/-
  What the program's functions and the reference's answer, for all arguments of their kind, in the small machine: part 2.
-/
import Derived.Test.YthjpdnjmppbokaaGreatS1
import Derived.Test.YthjpdnjmppbokaaGreatProg
import Derived.Test.YthjpdnjmppbokaaGreatK4
import Derived.Test.YthjpdnjmppbokaaGreatTie
import Derived.Test.YthjpdnjmppbokaaGreatEv

set_option linter.unusedVariables false
set_option linter.unusedSimpArgs false
set_option linter.unusedSectionVars false

section
namespace Go.Proofs.YthjpdnjmppbokaaGreat
open Go Km

def rawRows (l : List RawD) : List (List FC) := l.map RawD.row
@[simp] theorem rawRows_len (l : List RawD) : (rawRows l).length = l.length := by simp [rawRows]
theorem rawRows_grid (l : List RawD) : Grid 10 (rawRows l) := Grid.map fun _ => rfl
theorem rawRows_at {l : List RawD} {j : Nat} (hj : j < l.length) : (rawRows l)[j]? = some l[j].row := by simp [rawRows, hj]
def bnd : Nat → Nat
  | 0 => 0
  | n + 1 => 2 * bnd n + 1
theorem bnd_le {n : Nat} (h : n ≤ 5) : bnd n ≤ 31 := by
  match n, h with
  | 0, _ => decide
  | 1, _ => decide
  | 2, _ => decide
  | 3, _ => decide
  | 4, _ => decide
  | 5, _ => decide
def Dj (c c2 : C) : Prop := ∀ i, blkOf c = some i → blkOf c2 ≠ some i
theorem app2 {H : Heap} {c c2 : C} {ss nx : List StandD} {bN : Nat} {y : Blk} (h : LS H c ss) (h2 : LS H c2 nx) (hd : Dj c c2) (hl : nx.length ≤ 1000) (hN : H[bN]? = some y) (hy : notOpn y = true) (x : StandD) :
    ∃ c' H', appendV (H ++ [.box (x.row.map .f) 0]) 7 88 (.c c2) (.c (.sl H.length 0 1 1 0 7)) = some (.c c', H') ∧ LS H' c ss ∧ LS H' c' (nx ++ [x]) ∧ Dj c c' ∧ H'[bN]? = some y := by
  obtain ⟨c', H', e1, e2, e3, e4, e5⟩ := (h2.push [.box (x.row.map .f) 0]).app hl (b1 := H.length) (fl1 := 0) (x := x) (by simp)
  refine ⟨c', H', e1, ?_, e2, ?_, ?_⟩
  · exact (h.push [.box (x.row.map .f) 0]).keep fun i z hz hi => e4 i z hz (hd i hi)
  · intro i hi
    rcases e5 with e5 | e5
    · rw [e5]; exact hd i hi
    · rw [e5]
      have := h.lt hi
      simp
      omega
  · refine e4 _ _ (by rw [List.getElem?_append_left (lt_of_get hN)]; exact hN) (h2.notBox hN hy)

theorem stands_ex (g : Tg) (l : List RawD) (hl : l.length ≤ 9223372036854775807) (hx : ∀ x ∈ l, x.OK) : ∃ g' ss, ss.length ≤ 31 ∧ (∀ s ∈ ss, s.Fine) ∧ Km.Pure tab.get F_x122 [.c (.f (sl g (rawRows l)))] = Eq (.c (.f (sl g' (standRows ss)))) := by
  have key : ∃ r, (∃ g' ss, ss.length ≤ 31 ∧ (∀ s ∈ ss, s.Fine) ∧ r = .c (.f (sl g' (standRows ss)))) ∧ Km.Pure tab.get F_x122 [.c (.f (sl g (rawRows l)))] r := by
    refine pure_ex T_x122 rfl fun Q hQ => ?_
    refine kw_seq (kw_region (.inl rfl) ?_)
    simp
    refine kw_seq (kw_region (.inl rfl) ?_)
    simp
    refine kw_seq ?_
    refine kw_seq (kw_region (.inl rfl) ?_)
    simp
    refine kw_cfor (min l.length 5) (fun j t H => t.g 0 = .c (.f (sl g (rawRows l))) ∧ ∃ c ss, t.g 3 = .c c ∧ LS H c ss ∧ ss.length ≤ bnd j ∧ ∀ s ∈ ss, s.Fine) (by omega) rfl (by simp)
      ⟨by simp, .f .es, [], by simp, .inl ⟨rfl, rfl⟩, by simp, by simp⟩ ?_ ?_ ?_
    · rintro j t H L hj ⟨g0, c, ss, g3, hLS, hb, hf⟩ ha hL
      by_cases k1 : j < l.length
      · simp [ha, g0, k1]
        refine hL _ ⟨by simp [g0], c, ss, by simp [g3], hLS, hb, hf⟩ (by simp [ha]) ?_
        simp
        omega
      · simp [ha, g0, k1]
        refine hL _ ⟨by simp [g0], c, ss, by simp [g3], hLS, hb, hf⟩ (by simp [ha]) ?_
        simp
        omega
    · rintro j t H hj ⟨g0, c, ss, g3, hLS, hb, hf⟩ ha next
      have hj' : j < l.length := by omega
      have hb5 := bnd_le (n := j) (by omega)
      obtain ⟨s, hs, hmade⟩ := made_ex l[j] (hx _ (List.getElem_mem hj'))
      have hmade := Km.Pure.eq hmade
      have hrow := fun H : Heap => ld_rowa (H := H) (rawRows_grid l) (rawRows_at hj')
      simp only [RawD.row, List.map_cons, List.map_nil] at hrow hmade
      have hsr : s.row.map C.f = [.f (fi s.meet), .f (fi s.room), .f (fi s.team), .f (fi s.size), .f (sl s.st.cg (classRows s.st.cs)), .f (fi s.st.len), .f (sl s.st.xg (instRows s.st.xs))] := rfl
      rw [hsr] at hmade
      refine kw_block ?_
      refine kw_seq (kw_region (.inl rfl) ?_)
      simp [g0, ha, idx_sl, hj', hrow, hmade]
      have kN : (H ++ [Blk.box [.f (fi s.meet), .f (fi s.room), .f (fi s.team), .f (fi s.size), .f (sl s.st.cg (classRows s.st.cs)), .f (fi s.st.len), .f (sl s.st.xg (instRows s.st.xs))] 0])[H.length]? = some (.box [.f (fi s.meet), .f (fi s.room), .f (fi s.team), .f (fi s.size), .f (sl s.st.cg (classRows s.st.cs)), .f (fi s.st.len), .f (sl s.st.xg (instRows s.st.xs))] 0) := by simp
      have kL := hLS.push [Blk.box [.f (fi s.meet), .f (fi s.room), .f (fi s.team), .f (fi s.size), .f (sl s.st.cg (classRows s.st.cs)), .f (fi s.st.len), .f (sl s.st.xg (instRows s.st.xs))] 0]
      obtain ⟨bN, hbN⟩ : ∃ bN, bN = H.length := ⟨_, rfl⟩
      rw [← hbN] at kN ⊢
      generalize H ++ [Blk.box [.f (fi s.meet), .f (fi s.room), .f (fi s.team), .f (fi s.size), .f (sl s.st.cg (classRows s.st.cs)), .f (fi s.st.len), .f (sl s.st.xg (instRows s.st.xs))] 0] = HA at kN kL ⊢
      obtain ⟨g2, hex⟩ := kL.ex 63
      have hex : exC deep HA c = some (sl g2 (standRows ss)) := hex
      obtain ⟨m1, m2, m3⟩ := kL.mk 63
      have hdeep : mkC (63 + 1) c HA = mkC deep c HA := rfl
      rw [hdeep] at m1 m2 m3
      have mN := m3 _ _ kN (kL.notBox kN rfl)
      obtain ⟨bl, hlst⟩ := listed_ex g2 ss s (by omega)
      rw [hsr] at hlst
      refine kw_seq ?_
      refine kw_seq (kw_region (.inl rfl) ?_)
      simp [g3, kN, hex, hlst]
      generalize mkC deep c HA = HB at m1 m2 mN ⊢
      cases bl
      case true =>
        refine kw_cond_t (by simp) ?_
        refine kw_exit rfl ?_
        refine next _ _ ⟨by simp [g0], c, ss, by simp [g3], m1, ?_, hf⟩ (by simp [ha])
        show ss.length ≤ 2 * bnd j + 1
        omega
      refine kw_cond_f (by simp) (kw_skip ?_)
      refine kw_seq (kw_region (.inl rfl) ?_)
      simp
      have hear := fun x : StandD => earlier_ex x s
      -- the second loop, and the end of the round
      have second : ∀ (t : T) (H : Heap) (c2 : C) (nx : List StandD), t.g 0 = .c (.f (sl g (rawRows l))) → t.g 3 = .c c → t.g 4 = vi j → t.g 5 = .c (.ptr bN 0 0) → t.g 6 = .c c2 → H[bN]? = some (.box [.f (fi s.meet), .f (fi s.room), .f (fi s.team), .f (fi s.size), .f (sl s.st.cg (classRows s.st.cs)), .f (fi s.st.len), .f (sl s.st.xg (instRows s.st.xs))] 0) →
          LS H c ss → LS H c2 nx → Dj c c2 → nx.length ≤ ss.length + 1 → (∀ s ∈ nx, s.Fine) →
          WP tab.get F_x122 none [.code C_x122_41, .inBlock 1, .code (incC3 4 18 19), .inLoop (roundC3 0 4 17 18 19 [⟨D 10, .mov (R 4), none⟩, ⟨D 11, .mov (R 0), none⟩, ⟨D 12, .len (R 11), none⟩, ⟨D 13, .bin .lss (R 10) (R 12), none⟩, ⟨D 14, .mov (R 13), none⟩, ⟨D 15, .mov (R 4), G 14 true⟩, ⟨D 16, .bin .lss (R 15) (.k (.c (.f (.int .i64 5)))), G 14 true⟩, ⟨D 17, .pick (R 14) (R 16) (.k (.c (.f (.bool false)))), none⟩] C_x122_14), .inBlock 0, .code C_x122_59] ⟨t, [], H⟩ Q := by
        intro t H c2 nx g0 g3 g4 g5 g6 hN hc hc2 hd hlen hfx
        refine kw_seq ?_
        refine kw_seq (kw_region (.inl rfl) ?_)
        simp
        refine kw_cfor ss.length (fun k t H => t.g 0 = .c (.f (sl g (rawRows l))) ∧ t.g 3 = .c c ∧ t.g 4 = vi j ∧ t.g 5 = .c (.ptr bN 0 0) ∧ H[bN]? = some (.box [.f (fi s.meet), .f (fi s.room), .f (fi s.team), .f (fi s.size), .f (sl s.st.cg (classRows s.st.cs)), .f (fi s.st.len), .f (sl s.st.xg (instRows s.st.xs))] 0) ∧ LS H c ss ∧
          ∃ c2 nx, t.g 6 = .c c2 ∧ LS H c2 nx ∧ Dj c c2 ∧ nx.length ≤ ss.length + 1 + k ∧ ∀ s ∈ nx, s.Fine) (by omega) rfl (by simp)
          ⟨by simp [g0], by simp [g3], by simp [g4], by simp [g5], hN, hc, c2, nx, by simp [g6], hc2, hd, by omega, hfx⟩ ?_ ?_ ?_
        · rintro k t H L hk ⟨g0, g3, g4, g5, hN, hc, c2, nx, g6, hc2, hd, hlen, hfx⟩ ha hL
          simp [ha, g3, hc.len]
          exact hL _ ⟨by simp [g0], by simp [g3], by simp [g4], by simp [g5], hN, hc, c2, nx, by simp [g6], hc2, hd, hlen, hfx⟩ (by simp [ha]) (by simp)
        · rintro k t H hk ⟨g0, g3, g4, g5, hN, hc, c2, nx, g6, hc2, hd, hlen, hfx⟩ ha next2
          obtain ⟨b, ep, hi, hld⟩ := hc.at hk
          obtain ⟨be, hbe⟩ := hear ss[k]
          rw [hsr] at hbe
          simp only [StandD.row, List.map_cons, List.map_nil] at hld hbe
          refine kw_block ?_
          refine kw_seq (kw_region (.inl rfl) ?_)
          simp [g3, g5, ha, hi, hld, -ld_ptr, show ldV H (some 7) (.c (.ptr bN 0 0)) = some (.a [.f (fi s.meet), .f (fi s.room), .f (fi s.team), .f (fi s.size), .f (sl s.st.cg (classRows s.st.cs)), .f (fi s.st.len), .f (sl s.st.xg (instRows s.st.xs))]) by simp [hN], hbe]
          cases be
          · obtain ⟨c', H', e1, e2, e3, e4, e5⟩ := app2 hc hc2 hd (by omega) hN rfl ss[k]
            simp only [StandD.row, List.map_cons, List.map_nil] at e1
            refine kw_cond_t (by simp) ?_
            refine kw_region (.inl rfl) ?_
            simp [g3, g6, ha, hi, hld, -ld_ptr, e1]
            refine kw_inBlock (next2 _ _ ?_ (by simp [ha]))
            refine ⟨by simp [g0], by simp [g3], by simp [g4], by simp [g5], e5, e2, c', nx ++ [ss[k]], by simp, e3, e4, by simp; omega, fun x hx => ?_⟩
            rcases List.mem_append.1 hx with hx | hx
            · exact hfx x hx
            · obtain rfl := List.mem_singleton.1 hx; exact hf _ (List.getElem_mem hk)
          · refine kw_cond_f (by simp) (kw_skip (kw_inBlock (next2 _ _ ?_ (by simp [ha]))))
            exact ⟨by simp [g0], by simp [g3], by simp [g4], by simp [g5], hN, hc, c2, nx, by simp [g6], hc2, hd, by omega, hfx⟩
        · rintro t H ⟨g0, g3, g4, g5, hN, hc, c2, nx, g6, hc2, hd, hlen, hfx⟩ ha2
          refine kw_region (.inl rfl) ?_
          simp [g6]
          refine kw_inBlock (next _ _ ⟨by simp [g0], c2, nx, by simp, hc2, ?_, hfx⟩ (by simp [g4]))
          show nx.length ≤ 2 * bnd j + 1
          omega
      refine kw_seq ?_
      refine kw_seq (kw_region (.inl rfl) ?_)
      simp
      refine kw_cfor ss.length (fun k t H => t.g 0 = .c (.f (sl g (rawRows l))) ∧ t.g 3 = .c c ∧ t.g 4 = vi j ∧ t.g 5 = .c (.ptr bN 0 0) ∧ H[bN]? = some (.box [.f (fi s.meet), .f (fi s.room), .f (fi s.team), .f (fi s.size), .f (sl s.st.cg (classRows s.st.cs)), .f (fi s.st.len), .f (sl s.st.xg (instRows s.st.xs))] 0) ∧ LS H c ss ∧
        ∃ c2 nx, t.g 6 = .c c2 ∧ LS H c2 nx ∧ Dj c c2 ∧ nx.length ≤ k ∧ ∀ s ∈ nx, s.Fine) (by omega) rfl (by simp)
        ⟨by simp [g0], by simp [g3], by simp [ha], by simp, mN, m1, .f .es, [], by simp, .inl ⟨rfl, rfl⟩, fun i _ => by simp [blkOf], by simp, by simp⟩ ?_ ?_ ?_
      · rintro k t H L hk ⟨g0, g3, g4, g5, hN, hc, c2, nx, g6, hc2, hd, hlen, hfx⟩ ha hL
        simp [ha, g3, hc.len]
        exact hL _ ⟨by simp [g0], by simp [g3], by simp [g4], by simp [g5], hN, hc, c2, nx, by simp [g6], hc2, hd, hlen, hfx⟩ (by simp [ha]) (by simp)
      · rintro k t H hk ⟨g0, g3, g4, g5, hN, hc, c2, nx, g6, hc2, hd, hlen, hfx⟩ ha next2
        obtain ⟨b, ep, hi, hld⟩ := hc.at hk
        obtain ⟨be, hbe⟩ := hear ss[k]
        rw [hsr] at hbe
        simp only [StandD.row, List.map_cons, List.map_nil] at hld hbe
        refine kw_block ?_
        refine kw_seq (kw_region (.inl rfl) ?_)
        simp [g3, g5, ha, hi, hld, -ld_ptr, show ldV H (some 7) (.c (.ptr bN 0 0)) = some (.a [.f (fi s.meet), .f (fi s.room), .f (fi s.team), .f (fi s.size), .f (sl s.st.cg (classRows s.st.cs)), .f (fi s.st.len), .f (sl s.st.xg (instRows s.st.xs))]) by simp [hN], hbe]
        cases be
        · refine kw_cond_f (by simp) (kw_skip (kw_inBlock (next2 _ _ ?_ (by simp [ha]))))
          exact ⟨by simp [g0], by simp [g3], by simp [g4], by simp [g5], hN, hc, c2, nx, by simp [g6], hc2, hd, by omega, hfx⟩
        · obtain ⟨c', H', e1, e2, e3, e4, e5⟩ := app2 hc hc2 hd (by omega) hN rfl ss[k]
          simp only [StandD.row, List.map_cons, List.map_nil] at e1
          refine kw_cond_t (by simp) ?_
          refine kw_region (.inl rfl) ?_
          simp [g3, g6, ha, hi, hld, -ld_ptr, e1]
          refine kw_inBlock (next2 _ _ ?_ (by simp [ha]))
          refine ⟨by simp [g0], by simp [g3], by simp [g4], by simp [g5], e5, e2, c', nx ++ [ss[k]], by simp, e3, e4, by simp; omega, fun x hx => ?_⟩
          rcases List.mem_append.1 hx with hx | hx
          · exact hfx x hx
          · obtain rfl := List.mem_singleton.1 hx; exact hf _ (List.getElem_mem hk)
      · rintro t H ⟨g0, g3, g4, g5, hN, hc, c2, nx, g6, hc2, hd, hlen, hfx⟩ ha2
        obtain ⟨c', H', e1, e2, e3, e4, e5⟩ := app2 hc hc2 hd (by omega) hN rfl s
        rw [hsr] at e1
        refine kw_seq (kw_region (.inl rfl) ?_)
        simp [g5, g6, hN, e1]
        refine second _ H' c' (nx ++ [s]) (by simp [g0]) (by simp [g3]) (by simp [g4]) (by simp [g5]) (by simp) e5 e2 e3 e4 (by simp; omega) fun x hx => ?_
        rcases List.mem_append.1 hx with hx | hx
        · exact hfx x hx
        · obtain rfl := List.mem_singleton.1 hx; exact hs
    · rintro t H ⟨g0, c, ss, g3, hLS, hb, hf⟩ ha
      have hb5 := bnd_le (n := min l.length 5) (by omega)
      obtain ⟨g2, hex⟩ := hLS.ex 63
      have hex : exC deep H c = some (sl g2 (standRows ss)) := hex
      refine kw_seq (kw_region (.inl rfl) ?_)
      simp [g3]
      refine kw_ret (hQ _ _ _ ⟨g2, ss, by omega, hf, rfl⟩ ?_)
      simp [hex]
  obtain ⟨r, ⟨g', ss, h1, h2, rfl⟩, h⟩ := key
  exact ⟨g', ss, h1, h2, Km.Pure.eq h⟩
end Go.Proofs.YthjpdnjmppbokaaGreat
end

section
namespace Go.Proofs.YthjpdnjmppbokaaGreat
open Go Km

theorem lmem_ok {s : StreamD} (hs : StreamOK s) {wf : Int} (h0 : 0 ≤ wf) (h1 : wf ≤ 100000) {x : InstD} (h : LMem s wf (wf + 10080) x) : 0 ≤ x.fr ∧ x.to = x.fr + s.len ∧ x.fr ≤ 200000 := by
  rcases h with ⟨f, p, l, mi, d, e, rfl, a1, a2, a3, a4⟩ | ⟨h, h'⟩
  · obtain ⟨m0, m1⟩ := instOf_ok (d := d) hs e
    unfold n0I at a1
    refine ⟨?_, rfl, ?_⟩
    · show 0 ≤ d * 1440 + mi
      omega
    · show d * 1440 + mi ≤ 200000
      omega
  · obtain ⟨i1, i2, i3, i4, i5⟩ := hs.2.2.2.2.2 x h
    omega
theorem used_step (l : List StandD) (x : StandD) (k tm q : Int) : usedI (l ++ [x]) k tm q = usedI l k tm q + if x.room = k ∧ x.team = tm then mins x.st q else 0 := by
  unfold usedI
  rw [ofTeam_app, List.map_append, sumI_app]
  by_cases h1 : x.room = k
  · by_cases h2 : x.team = tm
    · simp [ofTeam, h1, h2, sumI]
    · simp [ofTeam, h1, h2, sumI]
  · simp [ofTeam, h1, sumI]

theorem used_km (hsan : Km.Pure tab.get F_x26 [] (vb true)) (g : Tg) (l : List RawD) (hl : l.length ≤ 9223372036854775807) (hx : ∀ x ∈ l, x.OK) (n0 n1 n2 : Int) (b0 : 0 ≤ n0 ∧ n0 ≤ 255) (b1 : 0 ≤ n1 ∧ n1 ≤ 255) (b2 : 0 ≤ n2 ∧ n2 ≤ 255) :
    Km.Pure tab.get F_x22 [.c (.f (sl g (rawRows l))), .a [.f (.int .u8 n0), .f (.int .u8 n1), .f (.int .u8 n2)]] (vb true) := by
  refine pure_fn T_x22 rfl fun Q hQ => ?_
  have hsan := hsan.eq
  obtain ⟨gs, ss, hsl, hsf, hst⟩ := stands_ex g l hl hx
  obtain ⟨k, hk⟩ : ∃ k, k = n0 % 3 := ⟨_, rfl⟩
  obtain ⟨tm, htm⟩ : ∃ tm, tm = n1 % 3 := ⟨_, rfl⟩
  obtain ⟨day, hday⟩ : ∃ day, day = n2 % 60 := ⟨_, rfl⟩
  obtain ⟨q, hq⟩ : ∃ q, q = day / 7 := ⟨_, rfl⟩
  obtain ⟨W, hW⟩ : ∃ W, W = q * 10080 := ⟨_, rfl⟩
  have r0 : binV .rem (.c (.f (.int .u8 n0))) (.c (.f (.int .u8 3))) = some (.c (.f (.int .u8 k))) := by rw [bin_rem (by omega), Int.tmod_eq_emod_of_nonneg (by omega), hk]
  have r1 : binV .rem (.c (.f (.int .u8 n1))) (.c (.f (.int .u8 3))) = some (.c (.f (.int .u8 tm))) := by rw [bin_rem (by omega), Int.tmod_eq_emod_of_nonneg (by omega), htm]
  have r2 : binV .rem (.c (.f (.int .u8 n2))) (.c (.f (.int .u8 60))) = some (.c (.f (.int .u8 day))) := by rw [bin_rem (by omega), Int.tmod_eq_emod_of_nonneg (by omega), hday]
  have hqd := quo_nn (a := day) (b := 7) (by omega) (by omega) (by omega)
  rw [← hq] at hqd
  have hus := used_sp gs ss (by omega) hsf k tm day (by omega) (by omega)
  rw [← hq] at hus
  refine kw_seq (kw_region (.inl rfl) ?_)
  simp
  refine kw_seq (kw_region (.inl rfl) ?_)
  simp [hsan]
  refine kw_seq (kw_region (.inl rfl) ?_)
  simp [hst]
  refine kw_seq (kw_region (.inl rfl) ?_)
  simp [indexAV, intV, r0, wrap64 (n := k) (by omega) (by omega)]
  refine kw_seq (kw_region (.inl rfl) ?_)
  simp [indexAV, intV, r1, wrap64 (n := tm) (by omega) (by omega)]
  refine kw_seq (kw_region (.inl rfl) ?_)
  simp [indexAV, intV, r2, wrap64 (n := day) (by omega) (by omega)]
  refine kw_seq (kw_region (.inl rfl) ?_)
  simp [hqd, ← hW, wrap64 (n := W) (by omega) (by omega)]
  refine kw_seq (kw_region (.inl rfl) ?_)
  simp [hus]
  refine kw_seq (kw_region (.inl rfl) ?_)
  simp
  refine kw_seq ?_
  refine kw_seq (kw_region (.inl rfl) ?_)
  simp
  have hbnd : ∀ j (hj : j < ss.length), 0 ≤ (if (ss[j]).room = k ∧ (ss[j]).team = tm then mins (ss[j]).st q else 0) ∧ (if (ss[j]).room = k ∧ (ss[j]).team = tm then mins (ss[j]).st q else 0) ≤ 1800 := fun j hj => by
    obtain ⟨w0, w1, -⟩ := week_ex ss[j].st ((hsf _ (List.getElem_mem hj)).2.2.2.2.2.2.2.2) q (by omega) (by omega)
    split <;> omega
  obtain ⟨τ, τ0, τ1, τ2⟩ : ∃ τ : Nat → Int, τ 0 = 0 ∧ (∀ (j : Nat) (hj : j < ss.length), τ (j + 1) = τ j + if ss[j].room = k ∧ ss[j].team = tm then mins ss[j].st q else 0) ∧ τ ss.length = usedI ss k tm q := by
    refine ⟨fun j => usedI (ss.take j) k tm q, by simp [usedI, ofTeam, sumI], fun j hj => ?_, by simp only [List.take_length]⟩
    have htk : ss.take (j + 1) = ss.take j ++ [ss[j]] := by rw [List.take_add_one, List.getElem?_eq_getElem hj]; rfl
    show usedI (ss.take (j + 1)) k tm q = usedI (ss.take j) k tm q + _
    rw [htk, used_step]
  refine kw_cfor ss.length (fun j t H => t.g 5 = vb true ∧ t.g 6 = .c (.f (sl gs (standRows ss))) ∧ t.g 7 = vi k ∧ t.g 8 = vi tm ∧ t.g 10 = vi W ∧ t.g 11 = vi (usedI ss k tm q) ∧ t.g 12 = vi 0 ∧ t.g 13 = vi (τ j) ∧ 0 ≤ τ j ∧ τ j ≤ j * 1800) (by omega) rfl (by simp)
    ⟨by simp, by simp, by simp, by simp, by simp, by simp, by simp, by simp [τ0], by simp [τ0], by simp [τ0]⟩ ?_ ?_ ?_
  · rintro j t H L hj ⟨g5, g6, g7, g8, g10, g11, g12, g13, t0, t1⟩ ha hL
    simp [ha, g6]
    exact hL _ ⟨by simp [g5], by simp [g6], by simp [g7], by simp [g8], by simp [g10], by simp [g11], by simp [g12], by simp [g13], t0, t1⟩ (by simp [ha]) (by simp)
  · rintro j t H hj ⟨g5, g6, g7, g8, g10, g11, g12, g13, t0, t1⟩ ha next
    have hS := (hsf _ (List.getElem_mem hj)).2.2.2.2.2.2.2.2
    obtain ⟨gL, L, ⟨hLp, hLm⟩, hLl, hli⟩ := list_ex ss[j].st hS W (by omega) (by omega)
    have hm : sumM (L.filter fun x => decide (W ≤ x.fr)) = mins ss[j].st q := by
      have := list_mins ss[j].st hS q (by omega) (by omega) hLp (fun x => by rw [hLm, show W = 10080 * q by omega])
      rw [show W = 10080 * q by omega]
      exact this
    have hok := fun x (hxL : x ∈ L) => lmem_ok hS (by omega) (by omega) ((hLm x).1 hxL)
    have hlen0 := hS.2.1
    have hlen1 := hS.2.2.1
    have hb := hbnd j hj
    have hst3 := fun H : Heap => ld_rown (H := H) (k := 4) (n := 3) (standRows_grid ss) (standRows_at hj) (by omega)
    have hroom := fun H : Heap => ld_row (H := H) (k := 1) (standRows_grid ss) (standRows_at hj) rfl
    have hteam := fun H : Heap => ld_row (H := H) (k := 2) (standRows_grid ss) (standRows_at hj) rfl
    simp [StandD.row] at hst3 hroom hteam
    simp [StreamD.row] at hli
    obtain ⟨π, π0, π1, π2, π3⟩ : ∃ π : Nat → Int, π 0 = 0 ∧ (∀ (i : Nat) (hi : i < L.length), π (i + 1) = π i + if W ≤ L[i].fr then L[i].to - L[i].fr else 0) ∧ π L.length = mins ss[j].st q ∧ ∀ i, i ≤ L.length → 0 ≤ π i ∧ π i ≤ i * 180 := by
      refine ⟨fun i => sumM ((L.take i).filter fun x => decide (W ≤ x.fr)), by simp [sumM], fun i hi => ?_, by simp only [List.take_length]; exact hm, fun i hi => ?_⟩
      · have htk : L.take (i + 1) = L.take i ++ [L[i]] := by rw [List.take_add_one, List.getElem?_eq_getElem hi]; rfl
        show sumM ((L.take (i + 1)).filter _) = sumM ((L.take i).filter _) + _
        rw [htk, List.filter_append, sumM_app]
        by_cases hw : W ≤ L[i].fr <;> simp [hw, sumM]
      · have hsb := sum_bound ss[j].st (by omega) hlen1 ((L.take i).filter fun x => decide (W ≤ x.fr)) fun x hx => (hok x (List.mem_of_mem_take (List.mem_filter.1 hx).1)).2.1
        have hfl := List.length_filter_le (fun x : InstD => decide (W ≤ x.fr)) (L.take i)
        have hti : (L.take i).length ≤ i := by simp; omega
        refine ⟨hsb.1, ?_⟩
        show sumM ((L.take i).filter fun x => decide (W ≤ x.fr)) ≤ (i : Int) * 180
        have hsb2 := hsb.2
        omega
    refine kw_block ?_
    refine kw_seq (kw_region (.inl rfl) ?_)
    simp [g6, g10, ha, idx_sl, hj, hst3, wrap64 (n := W + 10080) (by omega) (by omega), hli]
    refine kw_seq ?_
    refine kw_seq (kw_region (.inl rfl) ?_)
    simp
    refine kw_cond_f (by simp) (kw_skip ?_)
    refine kw_seq (kw_region (.inl rfl) ?_)
    simp
    refine kw_cfor L.length (fun i t H => t.g 5 = vb true ∧ t.g 6 = .c (.f (sl gs (standRows ss))) ∧ t.g 7 = vi k ∧ t.g 8 = vi tm ∧ t.g 10 = vi W ∧ t.g 11 = vi (usedI ss k tm q) ∧ t.g 12 = vi 0 ∧ t.g 14 = vi j ∧ t.g 15 = .c (.f (sl gL (instRows L))) ∧ t.g 13 = vi (τ j + if ss[j].room = k ∧ ss[j].team = tm then π i else 0)) (by omega) rfl (by simp)
      ⟨by simp [g5], by simp [g6], by simp [g7], by simp [g8], by simp [g10], by simp [g11], by simp [g12], by simp [ha], by simp, by simp [g13, π0]⟩ ?_ ?_ ?_
    · rintro i t H Lk hi ⟨g5, g6, g7, g8, g10, g11, g12, g14, g15, g13⟩ ha hL
      simp [ha, g15]
      exact hL _ ⟨by simp [g5], by simp [g6], by simp [g7], by simp [g8], by simp [g10], by simp [g11], by simp [g12], by simp [g14], by simp [g15], by simp [g13]⟩ (by simp [ha]) (by simp)
    · rintro i t H hi ⟨g5, g6, g7, g8, g10, g11, g12, g14, g15, g13⟩ ha next2
      obtain ⟨o1, o2, o3⟩ := hok L[i] (List.getElem_mem hi)
      have p0 := π3 i (by omega)
      have hfr := fun H : Heap => ld_row (H := H) (k := 1) (instRows_grid L) (instRows_at hi) rfl
      have hto := fun H : Heap => ld_row (H := H) (k := 2) (instRows_grid L) (instRows_at hi) rfl
      try simp [InstD.row] at hfr hto
      have hp1 := π1 i hi
      refine kw_block ?_
      refine kw_seq (kw_region (.inl rfl) ?_)
      by_cases k1 : ss[j].room = k
      · by_cases k2 : ss[j].team = tm
        · rw [if_pos ⟨k1, k2⟩] at g13
          by_cases k3 : W ≤ L[i].fr
          · rw [if_pos k3] at hp1
            simp [g6, g7, g8, g10, g14, g15, ha, idx_sl, hj, hi, hroom, hteam, hfr, k1, k2, k3]
            refine kw_cond_t (by simp) ?_
            refine kw_region (.inl rfl) ?_
            simp [g13, g15, ha, idx_sl, hi, hfr, hto, wrap64 (n := τ j + π i + L[i].to) (by omega) (by omega), wrap64 (n := τ j + π i + L[i].to - L[i].fr) (by omega) (by omega)]
            refine kw_inBlock (next2 _ _ ?_ (by simp [ha]))
            refine ⟨by simp [g5], by simp [g6], by simp [g7], by simp [g8], by simp [g10], by simp [g11], by simp [g12], by simp [g14], by simp [g15], ?_⟩
            rw [if_pos ⟨k1, k2⟩]
            simp
            omega
          · rw [if_neg k3] at hp1
            simp [g6, g7, g8, g10, g14, g15, ha, idx_sl, hj, hi, hroom, hteam, hfr, k1, k2, k3]
            refine kw_cond_f (by simp) (kw_skip (kw_inBlock (next2 _ _ ?_ (by simp [ha]))))
            refine ⟨by simp [g5], by simp [g6], by simp [g7], by simp [g8], by simp [g10], by simp [g11], by simp [g12], by simp [g14], by simp [g15], ?_⟩
            rw [if_pos ⟨k1, k2⟩]
            simp [g13]
            omega
        · simp [g6, g7, g8, g14, ha, idx_sl, hj, hroom, hteam, k1, k2]
          refine kw_cond_f (by simp) (kw_skip (kw_inBlock (next2 _ _ ?_ (by simp [ha]))))
          refine ⟨by simp [g5], by simp [g6], by simp [g7], by simp [g8], by simp [g10], by simp [g11], by simp [g12], by simp [g14], by simp [g15], by simp [g13, k2]⟩
      · simp [g6, g7, g14, ha, idx_sl, hj, hroom, k1]
        refine kw_cond_f (by simp) (kw_skip (kw_inBlock (next2 _ _ ?_ (by simp [ha]))))
        refine ⟨by simp [g5], by simp [g6], by simp [g7], by simp [g8], by simp [g10], by simp [g11], by simp [g12], by simp [g14], by simp [g15], by simp [g13, k1]⟩
    · rintro t H ⟨g5, g6, g7, g8, g10, g11, g12, g14, g15, g13⟩ ha2
      have hτ := τ1 j hj
      rw [π2, ← hτ] at g13
      refine kw_inBlock (next _ _ ?_ (by simp [g14]))
      exact ⟨by simp [g5], by simp [g6], by simp [g7], by simp [g8], by simp [g10], by simp [g11], by simp [g12], by simp [g13], by omega, by omega⟩
  · rintro t H ⟨g5, g6, g7, g8, g10, g11, g12, g13, t0, t1⟩ ha
    rw [τ2] at g13
    refine kw_seq (kw_region (.inl rfl) ?_)
    simp [g5, g11, g12, g13]
    refine kw_ret (hQ _ _ ?_)
    simp
end Go.Proofs.YthjpdnjmppbokaaGreat
end

section
namespace Go.Proofs.YthjpdnjmppbokaaGreat
open Go Km

theorem sane : Km.Pure tab.get F_x26 [] (vb true) := pure_reckoned (reckoned ev)
theorem byte_of {x : List FC} (h : ∃ m, x = [FC.int .u8 m] ∧ Lit.wf (.int .u8 m)) : ∃ m, x = [FC.int .u8 m] ∧ B8 m := by
  obtain ⟨m, rfl, hw⟩ := h
  refine ⟨m, rfl, ?_⟩
  simp [Lit.wf, IntKind.min, IntKind.max, IntKind.signed, IntKind.bits] at hw
  exact ⟨by omega, by omega⟩
set_option maxRecDepth 100000 in
theorem raw_of {ys : List FC} {n : Nat} (hy : Shp Tryz.prog (n + 3) 66 ys) : ∃ x : RawD, ys = x.row ∧ x.OK := by
  obtain ⟨_, q1, rfl, h1, k1⟩ := shp_cons (shp_struct (ts := [5, 5, 5, 5, 5, 5, 5, 5, 5, 64]) Tryz.underlying66 rfl hy)
  obtain ⟨v1, rfl, b1⟩ := byte_of (shp_int Tryz.underlying5 h1)
  obtain ⟨_, q2, rfl, h1, k2⟩ := shp_cons k1
  obtain ⟨v2, rfl, b2⟩ := byte_of (shp_int Tryz.underlying5 h1)
  obtain ⟨_, q3, rfl, h1, k3⟩ := shp_cons k2
  obtain ⟨v3, rfl, b3⟩ := byte_of (shp_int Tryz.underlying5 h1)
  obtain ⟨_, q4, rfl, h1, k4⟩ := shp_cons k3
  obtain ⟨v4, rfl, b4⟩ := byte_of (shp_int Tryz.underlying5 h1)
  obtain ⟨_, q5, rfl, h1, k5⟩ := shp_cons k4
  obtain ⟨v5, rfl, b5⟩ := byte_of (shp_int Tryz.underlying5 h1)
  obtain ⟨_, q6, rfl, h1, k6⟩ := shp_cons k5
  obtain ⟨v6, rfl, b6⟩ := byte_of (shp_int Tryz.underlying5 h1)
  obtain ⟨_, q7, rfl, h1, k7⟩ := shp_cons k6
  obtain ⟨v7, rfl, b7⟩ := byte_of (shp_int Tryz.underlying5 h1)
  obtain ⟨_, q8, rfl, h1, k8⟩ := shp_cons k7
  obtain ⟨v8, rfl, b8⟩ := byte_of (shp_int Tryz.underlying5 h1)
  obtain ⟨_, q9, rfl, h1, k9⟩ := shp_cons k8
  obtain ⟨v9, rfl, b9⟩ := byte_of (shp_int Tryz.underlying5 h1)
  obtain ⟨pe, q10, rfl, he, k10⟩ := shp_cons k9
  obtain rfl : q10 = [] := k10
  obtain ⟨eg, rws, rfl, _, hel, hee⟩ := shp_slice Tryz.underlying64 he
  obtain ⟨ex, rfl, hex⟩ := rows_of (enc := fun n : Int => [FC.int .u8 n]) (p := fun n => B8 n) fun c hc' => byte_of (shp_int Tryz.underlying5 (hee c hc'))
  refine ⟨⟨v1, v2, v3, v4, v5, v6, v7, v8, v9, eg, ex⟩, rfl, b1, b2, b3, b4, b5, b6, b7, b8, b9, ?_, hex⟩
  simp at hel
  exact Nat.le_trans hel (by decide)

set_option maxRecDepth 100000 in
theorem used_true (ar : List V) (h : ArgsShp Tryz.prog [22, 23] ar) : Km.Pure tab.get F_x22 ar (vb true) := by
  obtain ⟨a0, _, rfl, h0, a1, _, rfl, h1, rfl⟩ := h
  have e0 : ∃ g l, a0 = .c (.f (sl g (rawRows l))) ∧ l.length ≤ 9223372036854775807 ∧ ∀ x ∈ l, x.OK := by
    rcases h0 with ⟨xs, _, _, d, hd, hd'⟩ | ⟨z, rfl, h0⟩
    · rw [Tryz.underlying22] at hd; cases hd; rcases hd' with ⟨_, e⟩ | ⟨_, _, e⟩ <;> cases e
    · obtain ⟨g, rws, e, _, hl, hr⟩ := shp_slice (n := 39) Tryz.underlying22 h0
      cases e
      obtain ⟨l, rfl, hx⟩ := rows_of (enc := RawD.row) (p := fun x => x.OK) fun r hr' => raw_of (n := 36) (hr r hr')
      refine ⟨g, l, rfl, ?_, hx⟩
      simp at hl
      exact Nat.le_trans hl (by decide)
  have e1 : ∃ n0 n1 n2, a1 = .a [.f (.int .u8 n0), .f (.int .u8 n1), .f (.int .u8 n2)] ∧ B8 n0 ∧ B8 n1 ∧ B8 n2 := by
    have fin : ∀ xs, Shp Tryz.prog 40 23 xs → ∃ n0 n1 n2, xs = [FC.int .u8 n0, .int .u8 n1, .int .u8 n2] ∧ B8 n0 ∧ B8 n1 ∧ B8 n2 := by
      intro xs hs
      obtain ⟨rws, rfl, hl, hg, hr⟩ := shp_arr (n := 39) Tryz.underlying23 hs
      obtain ⟨l, rfl, hx⟩ := rows_of (enc := fun n : Int => [FC.int .u8 n]) (p := fun n => B8 n) fun c hc' => byte_of (shp_int (n := 38) Tryz.underlying5 (hr c hc'))
      match l, hl, hx with
      | [x, y, z], _, hx => exact ⟨x, y, z, rfl, hx x (by simp), hx y (by simp), hx z (by simp)⟩
      | [], hl, _ => simp at hl
      | [_], hl, _ => simp at hl
      | [_, _], hl, _ => simp at hl
      | _ :: _ :: _ :: _ :: _, hl, _ => simp at hl
    rcases h1 with ⟨xs, rfl, hs, _⟩ | ⟨x, rfl, hs⟩
    · obtain ⟨n0, n1, n2, rfl, h⟩ := fin xs hs
      exact ⟨n0, n1, n2, rfl, h⟩
    · obtain ⟨n0, n1, n2, e, h⟩ := fin _ hs
      simp at e
  obtain ⟨g, l, rfl, hl, hx⟩ := e0
  obtain ⟨n0, n1, n2, rfl, b0, b1, b2⟩ := e1
  exact used_km sane g l hl hx n0 n1 n2 b0 b1 b2
end Go.Proofs.YthjpdnjmppbokaaGreat
end

