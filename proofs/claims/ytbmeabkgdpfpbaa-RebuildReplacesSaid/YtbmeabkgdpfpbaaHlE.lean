/- HL, part E: addresses, parts, stores, new variables. By an AI agent. -/
import Derived.Test.YtbmeabkgdpfpbaaHlD
set_option linter.unusedSimpArgs false
set_option linter.unusedVariables false
namespace Go.Hl
open Go
section
variable {P : Program} {c : Ctx} {M : Nat → Prop} {fr : Fr} {ob : Ob} {a : Act} {w : World} {ρ : Env}

theorem ptr_of (h : RepA' c M fr ob a w ρ) {x : Operand} {id off : Nat} (hx : ev fr x = .ptr id off) :
    ∃ y, a.eval x = y ∧ y.oneCell' = true ∧ ∀ b, ρ id = some (.blk b) → y = .pointer (some ⟨b, off, none⟩) := by
  have hr := repV_ref (h.ev x (by rw [hx]; simp)) (by rw [hx]; rfl)
  rw [hx] at hr
  simp only [RepH] at hr
  obtain ⟨⟨y, hy, h1, hp⟩, _⟩ := hr
  exact ⟨y, by simpa using hy, h1, hp⟩
theorem eptr_of (h : RepA' c M fr ob a w ρ) {x : Operand} {id n i sz off : Nat} (hx : ev fr x = .eptr id n i sz off) :
    ∃ y, a.eval x = y ∧ y.oneCell' = true ∧ ∀ hd, ρ id = some (.hdr hd) → n ≤ hlen hd ∧ (hlen hd = n → ∀ g cap, hd = .slice (some ⟨g, 0, none⟩) n cap → y = .pointer (some ⟨g, i * sz + off, none⟩)) := by
  have hr := repV_ref (h.ev x (by rw [hx]; simp)) (by rw [hx]; rfl)
  rw [hx] at hr
  simp only [RepH] at hr
  obtain ⟨⟨y, hy, h1, hp⟩, _⟩ := hr
  exact ⟨y, by simpa using hy, h1, hp⟩
theorem own_of (h : RepA' c M fr ob a w ρ) {x : Operand} {id n : Nat} (hx : ev fr x = .own id n) :
    ∃ y, a.eval x = y ∧ y.oneCell' = true ∧ ∀ hd, ρ id = some (.hdr hd) → n ≤ hlen hd ∧ (hlen hd = n → y = hd) := by
  have hr := repV_ref (h.ev x (by rw [hx]; simp)) (by rw [hx]; rfl)
  rw [hx] at hr
  simp only [RepH] at hr
  obtain ⟨⟨y, hy, h1, hp⟩, _⟩ := hr
  exact ⟨y, by simpa using hy, h1, hp⟩
theorem rp_of (h : RepA' c M fr ob a w ρ) {x : Operand} {v : CV} (hx : ev fr x = .c (.rp v)) :
    ∃ ad xs, a.eval x = .pointer (some ad) ∧ RepC w (Owned ρ c.X) v xs ∧ Reads w (Owned ρ c.X) ad xs := by
  have hr := h.ev x (by rw [hx]; simp)
  rw [hx] at hr
  have := hr.single rfl
  simp only [RepC] at this
  obtain ⟨ad, xs, he, hv, hrd⟩ := this
  exact ⟨ad, xs, by simpa using he, hv, hrd⟩
theorem slc_of (h : RepA' c M fr ob a w ρ) {x : Operand} {l : List CV} (hx : ev fr x = .c (.slc l)) :
    ∃ ad cap xs sz, a.eval x = .slice ad l.length cap ∧ RepL w (Owned ρ c.X) l xs ∧ (∀ v ∈ l, v.cells = sz) ∧ l.length ≤ cap ∧ (ad = none → cap = 0) ∧ ∀ b, ad = some b → Reads w (Owned ρ c.X) b xs := by
  have hr := h.ev x (by rw [hx]; simp)
  rw [hx] at hr
  have := hr.single rfl
  simp only [RepC] at this
  obtain ⟨ad, cap, xs, sz, he, h1⟩ := this
  exact ⟨ad, cap, xs, sz, by simpa using he, h1⟩
theorem int_of (h : RepA' c M fr ob a w ρ) {x : Operand} {k : IntKind} {n : Int} (hx : ev fr x = .c (.int k n)) : a.eval x = .int k n := by
  have hr := h.ev x (by rw [hx]; simp)
  rw [hx] at hr
  exact hr.int
theorem bool_of (h : RepA' c M fr ob a w ρ) {x : Operand} {b : Bool} (hx : ev fr x = .c (.bool b)) : a.eval x = .bool b := by
  have hr := h.ev x (by rw [hx]; simp)
  rw [hx] at hr
  exact hr.bool
theorem str_of (h : RepA' c M fr ob a w ρ) {x : Operand} {s : List UInt8} (hx : ev fr x = .c (.str s)) : a.eval x = .string ⟨s.toArray⟩ := by
  have hr := h.ev x (by rw [hx]; simp)
  rw [hx] at hr
  exact hr.str
theorem nils_of (h : RepA' c M fr ob a w ρ) {x : Operand} (hx : ev fr x = .c .nils) : a.eval x = .slice none 0 0 := by
  have hr := h.ev x (by rw [hx]; simp)
  rw [hx] at hr
  have := hr.single rfl
  simpa [RepC] using this

theorem repV_rp {O : Nat → Prop} {v : CV} {ad : Addr} {xs : List Value} (h1 : RepC w O v xs) (h2 : Reads w O ad xs) : RepV w ρ O (.c (.rp v)) (.pointer (some ad)) :=
  repV_single (by simp only [RepC]; exact ⟨ad, xs, rfl, h1, h2⟩) rfl rfl
/-- A reference whose value is given for every place that is known. -/
theorem repV_ptr {O : Nat → Prop} {id off : Nat} {y : Value} (h1 : y.oneCell' = true) (h2 : ∀ b, ρ id = some (.blk b) → y = .pointer (some ⟨b, off, none⟩)) : RepV w ρ O (.ptr id off) y :=
  repV_mk (by simp only [RepH]; exact ⟨y, rfl, h1, h2⟩) rfl (oneCell_isAgg h1)

theorem fieldPlace_run {i : TypeInfo} {f : Field} (hi : P.info? f.type = some i) (hp : 0 < i.size) (ad : Addr) : (fieldPlace ad f).run P w = .ok (ad.add f.offset) w := by
  simp [fieldPlace, run_sizeOf' hi, Nat.ne_of_gt hp]

/-- A field's place, with its type. -/
theorem hfield_ok {t : TypeId} {f : Nat} {K : Nat → TyI → Prop} (h : hfield P t f K) :
    ∃ (fs : Array Field) (fd : Field) (tf : TyI) (i : TypeInfo) (d : TypeDesc) (zv : Value), P.underlying t = some (.struct fs) ∧ fs[f]? = some fd ∧ TyOk P fd.type tf i d zv ∧ K fd.offset tf := by
  unfold hfield at h
  rw [hlift_iff] at h
  obtain ⟨ti, ht, h⟩ := h
  obtain ⟨i, d, zv, hty⟩ := tyOf_ok ht
  split at h
  · rename_i fs hfs
    rw [hlift_iff] at h
    obtain ⟨p, hp, h⟩ := h
    rw [hlift_iff] at h
    obtain ⟨tf, htf, h⟩ := h
    have hd := hty.d_
    rw [hfs] at hd
    cases d <;> simp [tyd] at hd
    rename_i gs
    rw [← hd] at hp
    simp only [List.getElem?_map, Option.map_eq_some_iff] at hp
    obtain ⟨fd, hfd, rfl⟩ := hp
    obtain ⟨i', d', zv', h'⟩ := tyOf_ok htf
    exact ⟨gs, fd, tf, i', d', zv', hty.under, by simpa using hfd, h', h⟩
  · exact h.elim

/-- A live pointer is an address. -/
theorem ptr_live (h : RepA' c M fr ob a w ρ) {x : Operand} {id off : Nat} (hx : ev fr x = .ptr id off) (hb : HO.isBox (ob id) = true) :
    ∃ b, ρ id = some (.blk b) ∧ a.eval x = .pointer (some ⟨b, off, none⟩) := by
  obtain ⟨y, he, h1, hp⟩ := ptr_of h hx
  unfold HO.isBox at hb
  split at hb
  · rename_i t v ho
    obtain ⟨b, cs, hρ, _⟩ := h.box ho
    exact ⟨b, hρ, by rw [he]; exact hp b hρ⟩
  · cases hb
theorem eptr_live (h : RepA' c M fr ob a w ρ) {x : Operand} {id n i sz off : Nat} (hx : ev fr x = .eptr id n i sz off) (hb : HO.isRow n (ob id)) :
    ∃ g cap, ρ id = some (.hdr (.slice (some ⟨g, 0, none⟩) n cap)) ∧ a.eval x = .pointer (some ⟨g, i * sz + off, none⟩) := by
  obtain ⟨y, he, h1, hp⟩ := eptr_of h hx
  unfold HO.isRow at hb
  split at hb
  · rename_i t sz' l ho
    obtain ⟨rfl, hne⟩ := hb
    obtain ⟨hd, xs, hρ, hl2, hcs, how⟩ := h.rowO ho
    obtain ⟨hp1, hp2⟩ := hp hd hρ
    rcases how.2 with ⟨rfl, hz⟩ | ⟨g, cap, cur, rfl, _⟩
    · exact absurd (List.eq_nil_of_length_eq_zero hz) hne
    · exact ⟨g, cap, hρ, by rw [he]; exact hp2 rfl g cap rfl⟩
  · exact hb.elim
theorem own_live (h : RepA' c M fr ob a w ρ) {x : Operand} {id n sz : Nat} {t : TypeId} {l : List CV} (hx : ev fr x = .own id n) (ho : ob id = some (.row t sz l)) (hn : n = l.length) :
    ∃ hd xs, ρ id = some (.hdr hd) ∧ a.eval x = hd ∧ hlen hd = n ∧ RepL w (Owned ρ c.X) l xs ∧ (∀ v ∈ l, v.cells = sz) ∧ w.ownsRow 0 t sz hd n xs := by
  subst hn
  obtain ⟨y, he, h1, hp⟩ := own_of h hx
  obtain ⟨hd, xs, hρ, hl2, hcs, how⟩ := h.rowO ho
  obtain ⟨hp1, hp2⟩ := hp hd hρ
  have hlen : hlen hd = l.length := by
    rcases how.2 with ⟨rfl, hz⟩ | ⟨g, cap, cur, rfl, _⟩
    · simp [hlen, hz]
    · simp [hlen]
  exact ⟨hd, xs, hρ, by rw [he]; exact hp2 hlen, hlen, hl2, hcs, how⟩

theorem repV_ptr' {O : Nat → Prop} {id off b : Nat} (h : ρ id = some (.blk b)) : RepV w ρ O (.ptr id off) (.pointer (some ⟨b, off, none⟩)) :=
  repV_ptr (by simp [Value.oneCell']) (fun b' hb' => by rw [h] at hb'; cases hb'; rfl)
theorem repV_eptr' {O : Nat → Prop} {id n i sz off g cap : Nat} (h : ρ id = some (.hdr (.slice (some ⟨g, 0, none⟩) n cap))) : RepV w ρ O (.eptr id n i sz off) (.pointer (some ⟨g, i * sz + off, none⟩)) := by
  refine repV_mk ?_ rfl rfl
  simp only [RepH]
  refine ⟨_, rfl, by simp [Value.oneCell'], fun hd hρ => ?_⟩
  rw [h] at hρ
  cases hρ
  refine ⟨by simp [hlen], fun _ g' cap' e => ?_⟩
  cases e
  rfl

theorem fieldAddr_sound (h : RepA' c M fr ob a w ρ) {t : TypeId} {x : Operand} {f : Nat} {K : HV → Prop} (hl : hfieldAddr P t (ev fr x) f ob K) :
    ∃ u y, K u ∧ (Instr.fieldAt t (a.eval x) f).run P w = .ok y w ∧ RepV w ρ (Owned ρ c.X) u y ∧ u.men M := by
  obtain ⟨fs, fd, tf, i, d, zv, hu, hf, hty, hK⟩ := hfield_ok hl
  have hp : 0 < i.size := by rw [hty.size]; exact hty.pos
  have run : ∀ ad, (Instr.fieldAt t (.pointer (some ad)) f).run P w = .ok (.pointer (some (ad.add fd.offset))) w := fun ad => by
    simp [Instr.fieldAt, run_underlying hu, hf, Instr.sureAddr, fieldPlace_run hty.info hp]
  have hm := h.evm x
  split at hK
  · rename_i v hx
    rw [hlift_iff] at hK
    obtain ⟨u, hg, hK⟩ := hK
    obtain ⟨ad, xs, he, hv, hrd⟩ := rp_of h hx
    obtain ⟨c1, c2, c3, rfl, e1, e2, e3, e4⟩ := CV.getAt_spec hg hv
    exact ⟨.c (.rp u), _, hK, by rw [he]; exact run ad, by rw [← e1]; exact repV_rp e3 hrd.part, by simp [HV.men]⟩
  · rename_i id o hx
    obtain ⟨hb, hK⟩ := hK
    obtain ⟨b, hρ, he⟩ := ptr_live h hx hb
    refine ⟨_, _, hK, by rw [he]; exact run _, ?_, by rw [hx] at hm; simpa [HV.men] using hm⟩
    rw [addr_add0]
    exact repV_ptr' hρ
  · rename_i id n i' sz o hx
    obtain ⟨hb, hK⟩ := hK
    obtain ⟨g, cap, hρ, he⟩ := eptr_live h hx hb
    refine ⟨_, _, hK, by rw [he]; exact run _, ?_, by rw [hx] at hm; simpa [HV.men] using hm⟩
    rw [addr_add0, Nat.add_assoc]
    exact repV_eptr' hρ
  · exact hK.elim

theorem indexAddr_sound (h : RepA' c M fr ob a w ρ) {t : TypeId} {x ix : Operand} {K : HV → Prop} (hl : hindexAddr P t (ev fr x) (ev fr ix) ob K) :
    ∃ u y, K u ∧ (Instr.indexAt t (a.eval x) (a.eval ix)).run P w = .ok y w ∧ RepV w ρ (Owned ρ c.X) u y ∧ u.men M := by
  unfold hindexAddr at hl
  rw [hlift_iff] at hl
  obtain ⟨ti, ht, hl⟩ := hl
  obtain ⟨i0, d0, zv0, hty⟩ := tyOf_ok ht
  have hm := h.evm x
  split at hl
  · rename_i e k i hd hix
    have hdd := hty.d_
    rw [hd] at hdd
    have hu : P.underlying t = some (.slice e) := by
      rw [hty.under]; congr 1
      cases d0 <;> simp [tyd] at hdd
      rw [hdd]
    have hi := int_of h hix
    rw [hlift_iff] at hl
    obtain ⟨te, hte, hl⟩ := hl
    obtain ⟨ie, de, zve, htye⟩ := tyOf_ok hte
    have hsz : (sizeOf e).run P w = .ok te.size w := by rw [run_sizeOf' htye.info, htye.size]
    split at hl
    · rename_i l hx
      obtain ⟨⟨h0, h1⟩, hc, hK⟩ := hl
      obtain ⟨ad, cap, xs, sz, he, hl2, hcs, hcap, hn, hrd⟩ := slc_of h hx
      have hlt : i.toNat < l.length := by omega
      have hszz : sz = te.size := by rw [← hc]; exact (hcs _ (nth_mem hlt)).symm
      cases ad with
      | none => have := hn rfl; omega
      | some b =>
        obtain ⟨c1, c2, c3, rfl, e1, e2⟩ := repL_nth hl2 hcs hlt
        refine ⟨_, .pointer (some (b.add (i.toNat * te.size))), hK, ?_, ?_, by simp [HV.men]⟩
        · rw [he, hi]
          simp [Instr.indexAt, asIntOf, run_underlying hu, h0, h1, hsz]
        · rw [← hszz, ← e1]
          exact repV_rp e2 (hrd b rfl).part
    · rename_i id n hx
      split at hl
      · rename_i tr sz l ho
        obtain ⟨⟨hn, hs⟩, ⟨h0, h1⟩, hK⟩ := hl
        obtain ⟨hd', xs, hρ, he, hlen, hl2, hcs, how⟩ := own_live h hx ho hn
        rcases how.2 with ⟨rfl, hz⟩ | ⟨g, cap, cur, rfl, _⟩
        · omega
        · refine ⟨_, .pointer (some (⟨g, i.toNat * sz + 0, none⟩)), hK, ?_, repV_eptr' hρ, by rw [hx] at hm; simpa [HV.men] using hm⟩
          rw [he, hi]
          simp [Instr.indexAt, asIntOf, run_underlying hu, h0, h1, hsz, hs, addr_add0]
      · exact hl.elim
    · exact hl.elim
  · rename_i m e k i hd hix
    have hdd := hty.d_
    rw [hd] at hdd
    have hu : P.underlying t = some (.array m e) := by
      rw [hty.under]; congr 1
      cases d0 <;> simp [tyd] at hdd
      rw [hdd.1, hdd.2]
    have hi := int_of h hix
    rw [hlift_iff] at hl
    obtain ⟨te, hte, hl⟩ := hl
    obtain ⟨ie, de, zve, htye⟩ := tyOf_ok hte
    have hsz : (sizeOf e).run P w = .ok te.size w := by rw [run_sizeOf' htye.info, htye.size]
    obtain ⟨⟨h0, h1⟩, hl⟩ := hl
    have run : ∀ ad, (Instr.indexAt t (.pointer (some ad)) (.int k i)).run P w = .ok (.pointer (some (ad.add (i.toNat * te.size)))) w := fun ad => by
      simp [Instr.indexAt, asIntOf, run_underlying hu, h0, h1, hsz, Instr.sureAddr]
    split at hl
    · rename_i id o hx
      obtain ⟨hb, hK⟩ := hl
      obtain ⟨b, hρ, he⟩ := ptr_live h hx hb
      refine ⟨_, _, hK, by rw [he, hi]; exact run _, ?_, by rw [hx] at hm; simpa [HV.men] using hm⟩
      rw [addr_add0]
      exact repV_ptr' hρ
    · rename_i id n i' sz o hx
      obtain ⟨hb, hK⟩ := hl
      obtain ⟨g, cap, hρ, he⟩ := eptr_live h hx hb
      refine ⟨_, _, hK, by rw [he, hi]; exact run _, ?_, by rw [hx] at hm; simpa [HV.men] using hm⟩
      rw [addr_add0, Nat.add_assoc]
      exact repV_eptr' hρ
    · rename_i v hx
      rw [hlift_iff] at hl
      obtain ⟨u, hg, hK⟩ := hl
      obtain ⟨ad, xs, he, hv, hrd⟩ := rp_of h hx
      obtain ⟨c1, c2, c3, rfl, e1, e2, e3, e4⟩ := CV.getAt_spec hg hv
      exact ⟨.c (.rp u), _, hK, by rw [he, hi]; exact run ad, by rw [← e1]; exact repV_rp e3 hrd.part, by simp [HV.men]⟩
    · exact hl.elim
  · exact hl.elim
end
end Go.Hl
