/- The plain machine, its soundness, and the functions told by it: a part of the proof. -/
import Derived.Test.YtigbnhnmhalepaaA0
import Derived.Still
import Derived.ProofKit
import Derived.ChangeArms
import Derived.OpenShut
import Derived.Below
import Derived.SizedLaws
set_option linter.all false

namespace Ev
open Go

variable {P : Program} {A : St} {g : G} {w w1 : World} {a : Act} {ρ : List D} {o : Oper}

/-- blocks that are handed to a callee -/
def BOk (B : List Blk) : Prop := ∀ b, b ∈ B → ∃ cells, b = .mem false cells ∧ cells.all D.pc = true

/-- one result, as it is handed back; lo: how many blocks lay there before the call -/
def Res1 (g : G) (A : St) (w : World) (lo : Nat) (v : Value) : D → Prop
  | .sl .fresh wd els => (els = [] ∧ ∃ p, v = .slice p 0 0 ∧ ∀ x, p = some x → x.spot = x.spot) ∨
      ∃ b off cap, v = .slice (some ⟨b, off, none⟩) els.length cap ∧ lo ≤ b ∧ ¬ Owns g A b ∧ FreshAt g w b off cap wd els
  | .sl .rm wd els => R g v (.sl .any wd els) ∧ ((∃ p, v = .slice p els.length els.length) ∨
      ∃ b off cap sz, v = .slice (some ⟨b, off, none⟩) els.length cap ∧ lo ≤ b ∧ ¬ Owns g A b ∧ RoomOk g w b (off + els.length * wd) sz ∧ off + cap * wd ≤ sz)
  | d => R g v d ∧ d.pv = true

def Res (g : G) (A : St) (w : World) (lo : Nat) (v : Value) : D → Prop
  | .tup ds => (∃ vs, v = .tuple vs ∧ vs.size = ds.length ∧ ∀ (i : Nat) v d, vs[i]? = some v → ds[i]? = some d → Res1 g A w lo v d) ∧ (ds.filter isNew).length ≤ 1
  | d => Res1 g A w lo v d

/-- the call of function f does what S says of it -/
def Con (P : Program) (S : Nat → Option Fn) (f : Nat) : Prop := ∀ F, S f = some F → ∀ args B r B', F args B = some (r, B') →
  ∀ (g : G) (w : World) (vs : Array Value), Inv g ⟨B, []⟩ w → BOk B → vs.size = args.length → (∀ (i : Nat) v d, vs[i]? = some v → args[i]? = some d → R g v d) →
    Calls P f vs w fun e w' => ∃ v g', e = .returned v ∧ Inv g' ⟨B', []⟩ w' ∧ BOk B' ∧ B'.length = B.length ∧ Fr ⟨B, []⟩ g w ⟨B', []⟩ g' w' ∧ Res g' ⟨B', []⟩ w' w.heap.size v r

-- ------------------------------------------------------------------ the caller's side
theorem mapM_get {α β : Type} {f : α → Option β} : ∀ {l : List α} {r : List β}, l.mapM f = some r → r.length = l.length ∧ ∀ (i : Nat) x, l[i]? = some x → ∃ y, f x = some y ∧ r[i]? = some y
  | [], r, h => by simp at h; subst h; exact ⟨rfl, fun i x h => by simp at h⟩
  | a :: l, r, h => by
    rw [List.mapM_cons] at h
    simp only [bind, Option.bind_eq_some_iff, pure, Option.some.injEq] at h
    obtain ⟨y, hy, r', hr', rfl⟩ := h
    obtain ⟨h1, h2⟩ := mapM_get hr'
    refine ⟨by simp [h1], fun i x hx => ?_⟩
    cases i with
    | zero => simp at hx; subst hx; exact ⟨y, hy, rfl⟩
    | succ i => simp at hx; obtain ⟨z, hz, hr⟩ := h2 i x hx; exact ⟨z, hz, by simpa using hr⟩

theorem nodup_inj : ∀ {js : List Nat}, js.Nodup → ∀ {i i' : Nat} {j : Nat}, js[i]? = some j → js[i']? = some j → i = i'
  | [], _, i, i', j, h, _ => by simp at h
  | k :: js, hn, i, i', j, h, h' => by
    rw [List.nodup_cons] at hn
    cases i with
    | zero => cases i' with
      | zero => rfl
      | succ i' => simp at h h'; subst h; exact absurd (List.mem_of_getElem? h') hn.1
    | succ i => cases i' with
      | zero => simp at h h'; subst h'; exact absurd (List.mem_of_getElem? h) hn.1
      | succ i' => simp at h h'; rw [nodup_inj hn.2 h h']

theorem setBlks_length : ∀ (js : List Nat) (B bs : List Blk), (setBlks bs js B).length = bs.length
  | [], _, _ => by simp [setBlks]
  | _ :: _, [], _ => by simp [setBlks]
  | j :: js, b :: B, bs => by rw [setBlks, setBlks_length js B]; simp

theorem setBlks_other : ∀ (js : List Nat) (B bs : List Blk) (j : Nat), j ∉ js → (setBlks bs js B)[j]? = bs[j]?
  | [], _, _, _, _ => by simp [setBlks]
  | _ :: _, [], _, _, _ => by simp [setBlks]
  | i :: js, b :: B, bs, j, h => by
    simp only [List.mem_cons, not_or] at h
    rw [setBlks, setBlks_other js B _ j h.2, List.getElem?_set_ne (fun e => h.1 e.symm)]

theorem setBlks_at : ∀ (js : List Nat) (B bs : List Blk), js.Nodup → ∀ (i : Nat) j b, js[i]? = some j → B[i]? = some b → j < bs.length → (setBlks bs js B)[j]? = some b
  | [], _, _, _, i, j, b, h, _, _ => by simp at h
  | _ :: _, [], _, _, i, j, b, _, h, _ => by simp at h
  | k :: js, c :: B, bs, hn, i, j, b, h1, h2, hl => by
    rw [List.nodup_cons] at hn
    cases i with
    | zero =>
      simp at h1 h2; subst h1; subst h2
      rw [setBlks, setBlks_other js B _ k hn.1, List.getElem?_set_self hl]
    | succ i =>
      simp at h1 h2
      rw [setBlks]
      exact setBlks_at js B _ hn.2 i j b h1 h2 (by simpa using hl)

def G.sub (g : G) (js : List Nat) : G := { mu := g.mu, nb := js.length, nt := 0, m := fun i => g.m (js.getD i 0), fr := fun _ => 0, rho := fun _ => none }

theorem sub_m {js : List Nat} {i j : Nat} (h : js[i]? = some j) : (g.sub js).m i = g.m j := by simp [G.sub, List.getD, h]

theorem sub_R {js : List Nat} {v : Value} {d d' : D} (h : R g v d) (hr : d.ren js = some d') : R (g.sub js) v d' := by
  unfold D.ren at hr
  split at hr
  · rename_i j off
    obtain ⟨rfl, hj⟩ := h.ptr_inv
    split at hr
    · rename_i i hi
      cases hr
      have hij : js[i]? = some j := by
        obtain ⟨q1, q2, _⟩ := List.idxOf?_eq_some_iff.1 hi
        exact List.getElem?_eq_some_iff.2 ⟨q1, by simpa using q2⟩
      have hil := (List.getElem?_eq_some_iff.1 hij).1
      have := R.ptr (g := g.sub js) i off hil
      rw [sub_m hij] at this; exact this
    · cases hr
  · rename_i j off wd n
    obtain ⟨hj, hv⟩ := h.loc_inv
    split at hr
    · rename_i i hi
      cases hr
      have hij : js[i]? = some j := by
        obtain ⟨q1, q2, _⟩ := List.idxOf?_eq_some_iff.1 hi
        exact List.getElem?_eq_some_iff.2 ⟨q1, by simpa using q2⟩
      have hil := (List.getElem?_eq_some_iff.1 hij).1
      rcases hv with ⟨cap, rfl, hc, hl⟩ | ⟨p, rfl, rfl, hs⟩
      · have := R.loc (g := g.sub js) i off wd n cap hil hc (by rw [sub_m hij]; exact hl)
        rw [sub_m hij] at this; exact this
      · exact .loc0 p i off wd hil hs
    · cases hr
  · split at hr
    · rename_i hp
      cases hr
      have h2 := h.er
      generalize d.er = e at h2 hp
      unfold D.pv at hp
      split at hp
      · rename_i ds
        obtain ⟨vs, rfl, hl, hr⟩ := h2.agg_inv
        exact .agg vs ds hl (fun i v d hv hd => (hr i v d hv hd).of_pc (g := g) (g' := g.sub js) (fun _ _ _ x => x) (List.all_eq_true.1 hp d (List.mem_of_getElem? hd)))
      · exact h2.of_pc (g := g) (g' := g.sub js) (fun _ _ _ x => x) hp
    · cases hr

theorem BlkOk_sub {js : List Nat} {i j : Nat} (h : js[i]? = some j) {cells : List D} (hp : cells.all D.pc = true) (hb : BlkOk g w j (.mem false cells)) : BlkOk (g.sub js) w i (.mem false cells) := by
  have e := sub_m (g := g) h
  rcases hb with hb | ⟨h0, h1, h2, h3, h4, h5⟩
  · left; rw [e]; exact hb
  · right
    rw [e]
    exact ⟨h0, h1, h2, h3, h4, fun i d hd => by obtain ⟨v, hv, hR⟩ := h5 i d hd; exact ⟨v, hv, hR.of_pc (g := g) (g' := g.sub js) (fun _ _ _ x => x) (List.all_eq_true.1 hp d (List.mem_of_getElem? hd))⟩⟩

theorem sub_live {js : List Nat} (hB : ∀ (i : Nat) j, js[i]? = some j → ∃ b, A.blks[j]? = some b) {B : List Blk} (hlen : B.length = js.length) (hb : ∀ (i : Nat) j b, js[i]? = some j → B[i]? = some b → A.blks[j]? = some b) {i : Nat} (h : live (g.sub js) ⟨B, []⟩ i) :
    ∃ j, js[i]? = some j ∧ live g A j ∧ (g.sub js).m i = g.m j := by
  have hi : i < js.length := by have := live_lt h; simp at this; omega
  have hij : js[i]? = some js[i] := List.getElem?_eq_getElem hi
  obtain ⟨h0, h1⟩ := h
  rw [sub_m hij] at h0
  refine ⟨_, hij, ⟨h0, ?_⟩, sub_m hij⟩
  rcases h1 with ⟨c, h1⟩ | ⟨s, p, h1⟩
  · exact .inl ⟨c, hb i _ _ hij h1⟩
  · exact .inr ⟨s, p, hb i _ _ hij h1⟩

theorem sub_inv (I : Inv g A w) {js : List Nat} (hnd : js.Nodup) {B : List Blk} (hlen : B.length = js.length) (hb : ∀ (i : Nat) j b, js[i]? = some j → B[i]? = some b → A.blks[j]? = some b) (hO : BOk B) : Inv (g.sub js) ⟨B, []⟩ w := by
  have hB : ∀ (i : Nat) j, js[i]? = some j → ∃ b, A.blks[j]? = some b := fun i j h => by
    have hi : i < B.length := by rw [hlen]; exact (List.getElem?_eq_some_iff.1 h).1
    exact ⟨_, hb i j _ h (List.getElem?_eq_getElem hi)⟩
  refine ⟨hlen, rfl, I.mem, fun i x hx => ?_, fun k e h => by simp at h, fun k b en sz h => by simp [G.sub] at h, fun i i' h h' e => ?_, fun k k' b en sz en' sz' h => by simp [G.sub] at h, fun j k en sz _ h => by simp [G.sub] at h⟩
  · have hi : i < js.length := by rw [← hlen]; exact (List.getElem?_eq_some_iff.1 hx).1
    have hij : js[i]? = some js[i] := List.getElem?_eq_getElem hi
    obtain ⟨cells, rfl, hp⟩ := hO x (List.mem_of_getElem? hx)
    exact BlkOk_sub hij hp (I.blk _ _ (hb i _ _ hij hx))
  · obtain ⟨j, hj, hl, em⟩ := sub_live hB hlen hb h
    obtain ⟨j', hj', hl', em'⟩ := sub_live hB hlen hb h'
    rw [em, em'] at e
    have := I.exb j j' hl hl' e
    subst this
    exact nodup_inj hnd hj hj'

/-- the caller's memory behind the call -/
theorem back_inv (I : Inv g A w) {js : List Nat} (hnd : js.Nodup) {B B' : List Blk} (hlen : B.length = js.length) (hb : ∀ (i : Nat) j b, js[i]? = some j → B[i]? = some b → A.blks[j]? = some b) (hO : BOk B)
    {g' : G} {w' : World} (I' : Inv g' ⟨B', []⟩ w') (hO' : BOk B') (hlen' : B'.length = B.length) (F : Fr ⟨B, []⟩ (g.sub js) w ⟨B', []⟩ g' w') :
    Inv { g with mu := g'.mu } { A with blks := setBlks A.blks js B' } w' ∧ Fr A g w { A with blks := setBlks A.blks js B' } { g with mu := g'.mu } w' := by
  have hB : ∀ (i : Nat) j, js[i]? = some j → ∃ b, A.blks[j]? = some b := fun i j h => by
    have hi : i < B.length := by rw [hlen]; exact (List.getElem?_eq_some_iff.1 h).1
    exact ⟨_, hb i j _ h (List.getElem?_eq_getElem hi)⟩
  have le : GLe g { g with mu := g'.mu } := ⟨F.le.mu, Nat.le_refl _, Nat.le_refl _, fun _ _ => rfl, fun _ _ => .inl ⟨rfl, rfl⟩⟩
  have hm' : ∀ (i : Nat) j, js[i]? = some j → g'.m i = g.m j := fun i j h => by
    rw [F.le.m i (by simp only [G.sub]; exact (List.getElem?_eq_some_iff.1 h).1), sub_m h]
  -- what the callee may write
  have hown : ∀ b, Owns (g.sub js) ⟨B, []⟩ b → ∃ (i : Nat) (j : Nat), js[i]? = some j ∧ live g A j ∧ (g.m j).1 = b := by
    rintro b (⟨i, hi, e⟩ | ⟨k, en, sz, hk, _⟩)
    · obtain ⟨j, hj, hl, em⟩ := sub_live hB hlen hb hi
      exact ⟨i, j, hj, hl, by rw [← em]; exact e⟩
    · simp [G.sub] at hk
  have hlive : ∀ j, live { g with mu := g'.mu } { A with blks := setBlks A.blks js B' } j → live g A j := by
    intro j h
    by_cases hj : j ∈ js
    · obtain ⟨i, hi, e⟩ := List.getElem_of_mem hj
      have hij : js[i]? = some j := by rw [← e]; exact List.getElem?_eq_getElem hi
      have hiB : i < B.length := by omega
      obtain ⟨cells, hc, _⟩ := hO _ (List.getElem_mem hiB)
      refine ⟨h.1, .inl ⟨cells, ?_⟩⟩
      rw [← hc]; exact hb i j _ hij (List.getElem?_eq_getElem hiB)
    · obtain ⟨h0, h1⟩ := h
      simp only [setBlks_other js B' A.blks j hj] at h1
      exact ⟨h0, h1⟩
  have hnot : ∀ j, j ∉ js → live g A j → ¬ Owns (g.sub js) ⟨B, []⟩ (g.m j).1 := by
    intro j hj hl h
    obtain ⟨i, j', hj', hl', e⟩ := hown _ h
    have := I.exb j' j hl' hl e
    subst this
    exact hj (List.mem_of_getElem? hj')
  have hnotr : ∀ k b en sz, k < g.nt → g.rho k = some (b, en, sz) → ¬ Owns (g.sub js) ⟨B, []⟩ b := by
    intro k b en sz hk hr h
    obtain ⟨i, j', hj', hl', e⟩ := hown _ h
    exact I.exm j' k en sz hl' hk (by rw [e]; exact hr)
  refine ⟨⟨by simp [setBlks_length, I.nb], I.nt, I'.mem, fun j x hx => ?_, I.tok, fun k b en sz hk hr => ?_, fun i j hi hj e => I.exb i j (hlive i hi) (hlive j hj) e, I.exr, fun j k en sz hj hk => I.exm j k en sz (hlive j hj) hk⟩,
    le, F.sz, fun b hb' hno => F.old b hb' (fun h => hno ?_), fun b hb' hno o => F.omu b hb' (fun h => hno ?_) o, fun b hb' h => ?_, F.os, F.tape, F.out⟩
  · by_cases hj : j ∈ js
    · obtain ⟨i, hi, e⟩ := List.getElem_of_mem hj
      have hij : js[i]? = some j := by rw [← e]; exact List.getElem?_eq_getElem hi
      have hiB : i < B'.length := by omega
      have hlt : j < A.blks.length := by obtain ⟨b, hb2⟩ := hB i j hij; exact (List.getElem?_eq_some_iff.1 hb2).1
      have hx' := setBlks_at js B' A.blks hnd i j _ hij (List.getElem?_eq_getElem hiB) hlt
      rw [hx'] at hx
      have hxe := Option.some.inj hx
      obtain ⟨cells, hc, hp⟩ := hO' _ (List.getElem_mem hiB)
      rw [hc] at hxe; subst hxe
      have hk := I'.blk i (.mem false cells) (by show B'[i]? = _; rw [List.getElem?_eq_getElem hiB, hc])
      have em := hm' i j hij
      rcases hk with hk | ⟨h0, h1, h2, h3, h4, h5⟩
      · left; rw [em] at hk; exact hk
      · right
        rw [em] at h0 h1 h2 h3 h4 h5
        exact ⟨h0, h1, h2, h3, h4, fun i d hd => by obtain ⟨v, hv, hR⟩ := h5 i d hd; exact ⟨v, hv, hR.of_pc (g := g') (g' := { g with mu := g'.mu }) (fun _ _ _ x => x) (List.all_eq_true.1 hp d (List.mem_of_getElem? hd))⟩⟩
    · simp only [setBlks_other js B' A.blks j hj] at hx
      have hk := I.blk j x hx
      have hjn : j < g.nb := by rw [← I.nb]; exact (List.getElem?_eq_some_iff.1 hx).1
      have hk2 : BlkOk { g with mu := g'.mu } w j x := by
        refine hk.mono le hjn (fun hz hl o => ?_)
        have hl2 := live_of hz hx hl
        have hb2 : (g.m j).1 < w.heap.size := Owns.lt I (.inl ⟨j, hl2, rfl⟩)
        exact F.omu _ hb2 (hnot j hj hl2) o
      -- the block itself is as it was
      cases x with
      | mem f cells =>
        cases f with
        | true => exact hk2
        | false =>
          rcases hk2 with hk2 | ⟨h0, h1, h2, h3, h4, h5⟩
          · exact .inl hk2
          have hl2 : live g A j := live_of h0 hx (.inl ⟨_, rfl⟩)
          have hold := F.old _ h1 (hnot j hj hl2)
          exact .inr ⟨h0, Nat.lt_of_lt_of_le h1 F.sz, h2, h3, fun o q1 q2 => by rw [cellAt_of_block hold, frozenAt_of_block hold]; exact h4 o q1 q2, fun i d hd => by
            obtain ⟨v, hv, hR⟩ := h5 i d hd
            exact ⟨v, by rw [cellAt_of_block hold]; exact hv, hR⟩⟩
      | iter s p =>
        obtain ⟨h1, h0, h2, h3⟩ := hk2
        have hl2 : live g A j := live_of h0 hx (.inr ⟨_, _, rfl⟩)
        have hb2 : (g.m j).1 < w.heap.size := Owns.lt I (.inl ⟨j, hl2, rfl⟩)
        exact ⟨h1, h0, by rw [F.old _ hb2 (hnot j hj hl2)]; exact h2, h3⟩
      | dead => trivial
  · obtain ⟨h1, h2, h3⟩ := I.rho k b en sz hk hr
    have hno := hnotr k b en sz hk hr
    have hold := F.old b h1 hno
    refine ⟨Nat.lt_of_lt_of_le h1 F.sz, fun o ho => ?_, fun o q1 q2 => by rw [cellAt_of_block hold, frozenAt_of_block hold]; exact h3 o q1 q2⟩
    have : g'.mu b o = g.mu b o := F.omu b h1 hno o
    show g'.mu b o = none
    rw [this]; exact h2 o ho
  · obtain ⟨i, j, _, hl, e⟩ := hown b h; exact .inl ⟨j, hl, e⟩
  · obtain ⟨i, j, _, hl, e⟩ := hown b h; exact .inl ⟨j, hl, e⟩
  · rcases h with ⟨j, hj, e⟩ | ⟨k, en, sz, hk, hr⟩
    · exact .inl ⟨j, hlive j hj, e⟩
    · exact .inr ⟨k, en, sz, hk, hr⟩

end Ev

namespace Ev
open Go

variable {P : Program} {A : St} {g : G} {w w1 : World} {a : Act} {ρ : List D} {o : Oper}

theorem takeRes_old (m : Mode) (A : St) {d : D} (h : isNew d = false) : takeRes m A d = (d, A) := by
  unfold takeRes
  split
  · simp [isNew] at h
  · simp [isNew] at h
  · rfl

theorem Res1.old {lo : Nat} {v : Value} {d : D} (h : Res1 g A w lo v d) (hn : isNew d = false) : R g v d ∧ d.pv = true := by
  unfold Res1 at h
  split at h
  · simp [isNew] at hn
  · simp [isNew] at hn
  · exact h

theorem take_one (I : Inv g A w) {lo : Nat} {v : Value} {d : D} (h : Res1 g A w lo v d) (m : Mode) :
    ∃ g2, Inv g2 (takeRes m A d).2 w ∧ R g2 v (takeRes m A d).1 ∧ GLe g g2 ∧ (∀ b, b < lo → ∀ o, g2.mu b o = g.mu b o) ∧ (∀ b, Owns g2 (takeRes m A d).2 b → Owns g A b ∨ lo ≤ b) := by
  unfold Res1 at h
  split at h
  · rename_i wd els
    simp only [takeRes]
    rcases h with ⟨rfl, p, rfl, hs⟩ | ⟨b, off, cap, rfl, hlo, hno, F⟩
    · obtain ⟨g', I', hR, le, hmu, hO⟩ := newSl_ok0 I p hs wd m (o := .any) (.inl rfl)
      exact ⟨g', I', hR, le, fun b _ o => hmu b o, fun b hb => .inl (hO b hb)⟩
    · obtain ⟨g', I', hR, le, hmu, hO⟩ := newSl_ok I F hno m (o := .any) (fun _ => trivial)
      exact ⟨g', I', hR, le, fun b' hb' o => hmu b' (by omega) o, fun b' hb' => (hO b' hb').elim (fun e => .inr (by omega)) .inl⟩
  · rename_i wd els
    obtain ⟨hR, hroom⟩ := h
    have hany : ∃ g2, Inv g2 A w ∧ R g2 v (.sl .any wd els) ∧ GLe g g2 ∧ (∀ b, b < lo → ∀ o, g2.mu b o = g.mu b o) ∧ (∀ b, Owns g2 A b → Owns g A b ∨ lo ≤ b) :=
      ⟨g, I, hR, .refl g, fun _ _ _ => rfl, fun _ hb => .inl hb⟩
    simp only [takeRes]
    cases m with
    | any => simpa [St.newSl] using hany
    | trk => simpa [St.newSl] using hany
    | tok =>
      simp only [reduceCtorEq, if_false, St.newSl]
      rcases hroom with ⟨p, rfl⟩ | ⟨b, off, cap, sz, rfl, hlo, hno, hrm, hlim⟩
      · refine ⟨_, I.addTok els.length none (fun _ _ _ h => by cases h), (hR.mono (addTok_le _ _ _)).own ⟨by simp [G.addTok, I.nt], by simp [G.addTok, I.nt], fun _ => .inl ⟨p, rfl⟩⟩, addTok_le _ _ _, fun _ _ _ => rfl, fun b hb => ?_⟩
        rcases hb.addTok with h | ⟨_, _, h⟩
        · exact .inl h
        · cases h
      · refine ⟨_, I.addTok els.length (some (b, off + els.length * wd, sz)) (fun b' en' sz' e => ?_), (hR.mono (addTok_le _ _ _)).own ⟨by simp [G.addTok, I.nt], by simp [G.addTok, I.nt], fun _ => .inr ⟨b, off, cap, sz, rfl, by simp [G.addTok, I.nt], hlim⟩⟩, addTok_le _ _ _, fun _ _ _ => rfl, fun b' hb => ?_⟩
        · simp only [Option.some.injEq, Prod.mk.injEq] at e
          obtain ⟨rfl, rfl, rfl⟩ := e
          exact ⟨hno, hrm⟩
        · rcases hb.addTok with h | ⟨_, _, h⟩
          · exact .inl h
          · simp only [Option.some.injEq, Prod.mk.injEq] at h; exact .inr (by omega)
  · rename_i hf hr
    have hn : isNew d = false := by
      cases d <;> try rfl
      rename_i oo _ _
      cases oo <;> first | rfl | exact absurd rfl (hf _ _) | exact absurd rfl (hr _ _)
    rw [takeRes_old m A hn]
    exact ⟨g, I, h.1, .refl g, fun _ _ _ => rfl, fun _ hb => .inl hb⟩

theorem takeRess_old (m : Mode) : ∀ (ds : List D) (A : St), (ds.filter isNew).length = 0 → takeRess m A ds = (ds, A)
  | [], A, _ => rfl
  | d :: ds, A, h => by
    have hd : isNew d = false := by
      cases hx : isNew d with
      | false => rfl
      | true => simp [List.filter_cons, hx] at h
    have hds : (ds.filter isNew).length = 0 := by simpa [List.filter_cons, hd] using h
    simp only [takeRess, takeRes_old m A hd, takeRess_old m ds A hds]

theorem take_list (m : Mode) : ∀ (ds : List D) (vs : List Value) (A : St) (g : G) (lo : Nat), Inv g A w → vs.length = ds.length → (∀ (i : Nat) v d, vs[i]? = some v → ds[i]? = some d → Res1 g A w lo v d) → (ds.filter isNew).length ≤ 1 →
    ∃ g2, Inv g2 (takeRess m A ds).2 w ∧ (takeRess m A ds).1.length = ds.length ∧ (∀ (i : Nat) v d, vs[i]? = some v → (takeRess m A ds).1[i]? = some d → R g2 v d) ∧ GLe g g2 ∧ (∀ b, b < lo → ∀ o, g2.mu b o = g.mu b o) ∧
      (∀ b, Owns g2 (takeRess m A ds).2 b → Owns g A b ∨ lo ≤ b)
  | [], vs, A, g, lo, I, hl, _, _ => ⟨g, I, rfl, fun i v d _ h => by simp [takeRess] at h, .refl g, fun _ _ _ => rfl, fun _ h => .inl h⟩
  | d :: ds, [], _, _, _, _, hl, _, _ => by simp at hl
  | d :: ds, v :: vs, A, g, lo, I, hl, hr, hc => by
    cases hd : isNew d with
    | false =>
      have hc' : (ds.filter isNew).length ≤ 1 := by simpa [List.filter_cons, hd] using hc
      obtain ⟨g2, I2, hl2, hR2, le, hmu, hO⟩ := take_list m ds vs A g lo I (by simpa using hl) (fun i v d hv hd => hr (i + 1) v d hv hd) hc'
      refine ⟨g2, ?_, ?_, ?_, le, hmu, ?_⟩ <;> simp only [takeRess, takeRes_old m A hd]
      · exact I2
      · simp [hl2]
      · intro i u e hu he
        cases i with
        | zero => simp at hu he; subst hu; subst he; exact ((hr 0 _ _ rfl rfl).old hd).1.mono le
        | succ i => simp only [List.getElem?_cons_succ] at hu he; exact hR2 i u e hu he
      · exact hO
    | true =>
      have hc' : (ds.filter isNew).length = 0 := by simp only [List.filter_cons, hd, if_true, List.length_cons] at hc; omega
      obtain ⟨g2, I2, hR2, le, hmu, hO⟩ := take_one I (hr 0 _ _ rfl rfl) m
      have htr := takeRess_old m ds (takeRes m A d).2 hc'
      refine ⟨g2, ?_, ?_, ?_, le, hmu, ?_⟩ <;> simp only [takeRess, htr]
      · exact I2
      · simp
      · intro i u e hu he
        cases i with
        | zero => simp at hu he; subst hu; subst he; exact hR2
        | succ i =>
          simp only [List.getElem?_cons_succ] at hu he
          have hn : isNew e = false := by
            cases hx : isNew e with
            | false => rfl
            | true =>
              have : e ∈ ds.filter isNew := List.mem_filter.2 ⟨List.mem_of_getElem? he, hx⟩
              rw [List.eq_nil_of_length_eq_zero hc'] at this; cases this
          exact ((hr (i + 1) u e hu he).old hn).1.mono le
      · exact hO

theorem Res1.to {g g' : G} {A A' : St} {lo : Nat} {v : Value} {d : D} (h : Res1 g A w lo v d) (hmu : g'.mu = g.mu) (hO : ∀ b, Owns g' A' b → b < lo) : Res1 g' A' w lo v d := by
  have hx : ∀ b o v, g.mu b o = some v → g'.mu b o = some v := fun b o v h => by rw [hmu]; exact h
  unfold Res1 at h ⊢
  split at h
  · rcases h with h | ⟨b, off, cap, hv, hlo, _, F⟩
    · exact .inl h
    · refine .inr ⟨b, off, cap, hv, hlo, fun h => by have := hO b h; omega, F.lt, F.cap, F.wid, F.pc, fun o ho => by rw [hmu]; exact F.mu o ho, F.room, fun j d hd => ?_⟩
      obtain ⟨u, hu, hR⟩ := F.el j d hd
      obtain ⟨el, hel, hde⟩ := List.mem_flatten.1 (List.mem_of_getElem? hd)
      exact ⟨u, hu, hR.of_pc hx (F.pc el hel d hde)⟩
  · obtain ⟨hR, hr⟩ := h
    refine ⟨hR.of_pc hx rfl, ?_⟩
    rcases hr with h | ⟨b, off, cap, sz, hv, hlo, _, ⟨r1, r2, r3⟩, hlim⟩
    · exact .inl h
    · exact .inr ⟨b, off, cap, sz, hv, hlo, fun h => by have := hO b h; omega, ⟨r1, fun o ho => by rw [hmu]; exact r2 o ho, r3⟩, hlim⟩
  · rename_i hf hr
    refine ⟨?_, h.2⟩
    have hp := h.2
    unfold D.pv at hp
    split at hp
    · rename_i ds
      obtain ⟨vs, rfl, hl, hr⟩ := h.1.agg_inv
      exact .agg vs ds hl (fun i v d hv hd => (hr i v d hv hd).of_pc hx (List.all_eq_true.1 hp d (List.mem_of_getElem? hd)))
    · exact h.1.of_pc hx hp

theorem take_res (I : Inv g A w) {g1 : G} {A1 : St} {lo : Nat} {v : Value} {r : D} (hres : Res g1 A1 w lo v r) (hmu : g.mu = g1.mu) (hO : ∀ b, Owns g A b → b < lo) (m : Mode) :
    ∃ g2, Inv g2 (takeResT m A r).2 w ∧ R g2 v (takeResT m A r).1 ∧ GLe g g2 ∧ (∀ b, b < lo → ∀ o, g2.mu b o = g.mu b o) ∧ (∀ b, Owns g2 (takeResT m A r).2 b → Owns g A b ∨ lo ≤ b) := by
  by_cases ht : ∃ ds, r = .tup ds
  · obtain ⟨ds, rfl⟩ := ht
    obtain ⟨⟨vs, rfl, hl, hr⟩, hc⟩ := hres
    obtain ⟨g2, I2, hl2, hR2, le, hm2, hO2⟩ := take_list (w := w) m ds vs.toList A g lo I (by simpa using hl) (fun i v d hv hd => (hr i v d (by simpa using hv) hd).to hmu hO) hc
    exact ⟨g2, I2, .tup _ _ (by rw [hl2]; simpa using hl) (fun i v d hv hd => hR2 i v d (by simpa using hv) hd), le, hm2, hO2⟩
  · have h1 : Res1 g1 A1 w lo v r := by
      cases r <;> first | exact hres | exact absurd ⟨_, rfl⟩ ht
    have h2 : takeResT m A r = takeRes m A r := by
      cases r <;> first | rfl | exact absurd ⟨_, rfl⟩ ht
    rw [h2]
    exact take_one I (h1.to hmu hO) m

theorem mapM_mem {f : Nat → Option Nat} {l r : List Nat} (h : l.mapM f = some r) : r.length = l.length := (mapM_get h).1

theorem call_good {S : Nat → Option Fn} (I : Inv g A w) (E : Env g a.tmps ρ) {f : Nat} {xs : List Operand} {ys : List Opd} (hx : okOpds xs ys = true) {sel : List Nat} {m : Mode} {d : D} {A' : St}
    (h : callD S A f (ys.map (·.ev ρ)) sel m = some (d, A')) (hC : Con P S f) :
    Calls P f (xs.map a.eval).toArray w fun e w' => ∃ v g', e = .returned v ∧ Inv g' A' w' ∧ R g' v d ∧ Fr A g w A' g' w' := by
  unfold callD at h
  split at h
  · cases h
  · rename_i F hF
    split at h
    · cases h
    · rename_i js hjs
      split at h
      · rename_i B args' hB hargs
        split at h
        · rename_i hc
          obtain ⟨hnd, hall⟩ := hc
          split at h
          · rename_i r B' hr
            split at h
            · rename_i hlen
              have h := Option.some.inj h
              obtain ⟨hBl, hBget⟩ := mapM_get hB
              obtain ⟨hal, haget⟩ := mapM_get hargs
              have hb : ∀ (i : Nat) j b, js[i]? = some j → B[i]? = some b → A.blks[j]? = some b := fun i j b hj hbb => by
                obtain ⟨y, hy, hy2⟩ := hBget i j hj
                rw [hbb] at hy2; cases hy2; exact hy
              have hO : BOk B := fun b hbm => by
                have := List.all_eq_true.1 hall b hbm
                cases b with
                | mem fr cells => simp only [Bool.and_eq_true, Bool.not_eq_true'] at this; exact ⟨cells, by rw [this.1], this.2⟩
                | iter => cases this
                | dead => cases this
              obtain ⟨hol, horr⟩ := okOpds_R E hx
              have Isub := sub_inv I hnd hBl hb hO
              have hcall := hC F hF args' B r B' hr (g.sub js) w (xs.map a.eval).toArray Isub hO (by simp [hal, hol]) (fun i v d hv hd => by
                have hi : i < ys.length := by have := (List.getElem?_eq_some_iff.1 hd).1; rw [hal, List.length_map] at this; exact this
                have hy : (ys.map (·.ev ρ))[i]? = some ((ys[i]).ev ρ) := by simp [List.getElem?_eq_getElem hi]
                obtain ⟨z, hz, hz2⟩ := haget i _ hy
                rw [hd] at hz2; cases hz2
                exact sub_R (horr i v _ (by simpa using hv) hy) hz)
              refine hcall.mono ?_
              rintro e w' ⟨v, g', rfl, I', hO', hl', Fc, hres⟩
              obtain ⟨I2, F2⟩ := back_inv I hnd hBl hb hO I' hO' hl' Fc
              have hown2 : ∀ b, Owns { g with mu := g'.mu } { A with blks := setBlks A.blks js B' } b → b < w.heap.size := fun b hb2 => by
                have hlt := hb2.lt I2
                by_cases hbw : b < w.heap.size
                · exact hbw
                · -- what the caller owns lay there before
                  rcases hb2 with ⟨j, hj, e⟩ | ⟨k, en, sz, hk, hr2⟩
                  · have hjA : live g A j := by
                      by_cases hjj : j ∈ js
                      · obtain ⟨i, hi, e2⟩ := List.getElem_of_mem hjj
                        have hij : js[i]? = some j := by rw [← e2]; exact List.getElem?_eq_getElem hi
                        have hiB : i < B.length := by omega
                        obtain ⟨cells, hcc, _⟩ := hO _ (List.getElem_mem hiB)
                        refine ⟨hj.1, .inl ⟨cells, ?_⟩⟩
                        rw [← hcc]; exact hb i j _ hij (List.getElem?_eq_getElem hiB)
                      · obtain ⟨q0, q1⟩ := hj
                        simp only [setBlks_other js B' A.blks j hjj] at q1
                        exact ⟨q0, q1⟩
                    exact Owns.lt I (.inl ⟨j, hjA, e⟩)
                  · exact Owns.lt I (.inr ⟨k, en, sz, hk, hr2⟩)
              obtain ⟨g3, I3, hR3, le3, hmu3, hO3⟩ := take_res I2 hres rfl hown2 m
              rw [h] at I3 hR3 hO3
              refine ⟨v, g3, rfl, I3, hR3, F2.le.trans le3, F2.sz, F2.old, fun b hbw hno o => ?_, fun b hbw hown => ?_, F2.os, F2.tape, F2.out⟩
              · rw [hmu3 b hbw o]; exact F2.omu b hbw hno o
              · rcases hO3 b hown with hh | hh
                · exact F2.own b hbw hh
                · omega
            · cases h
          · cases h
        · cases h
      · cases h

end Ev

namespace Ev
open Go

variable {P : Program} {A : St} {g : G} {w w1 : World} {a : Act} {ρ : List D} {o : Oper}

def okCall (P : Program) : Op → Ins → Bool
  | .call ⟨.value (.func f), args, _⟩, .call f' ys _ _ => f == f' && okOpds args.toList ys && (match P.funcs[f]? with | some fn => fn.body.isSome && fn.name != "runtime.NumGoroutine" | none => false)
  | _, _ => false

def okGuard (ops : Array Oper) : Option (Nat × Bool) → Option (Nat × Bool) → Bool
  | none, none => true
  | some (j, b), some (s, b') => b == b' && decide (((ops[j]?).bind (·.dst)) = some s)
  | _, _ => false

def okOp (P : Program) (ops : Array Oper) (o : Oper) (e : EOp) : Bool :=
  decide (o.dst = e.dst) && okGuard ops o.guard e.guard && (okIns P o.op e.ins && notCall e.ins || okCall P o.op e.ins)

def calleeOf : Ins → List Nat
  | .call f _ _ _ => [f]
  | _ => []

theorem Env.put {t : Array Value} {ds : List Deferred} {v : Value} {d : D} (E : Env g t ρ) (hR : R g v d) (dst : Option Nat) :
    Env g (Act.put { tmps := t, defers := ds } dst v).tmps (match dst with | some t => ρ.set t d | none => ρ) := by
  cases dst with
  | none => exact E
  | some n => exact E.set n hR

theorem put_defers (a : Act) (dst : Option Nat) (v : Value) : (a.put dst v).defers = a.defers := by cases dst <;> rfl

/-- one operation -/
theorem op_sound {S : Nat → Option Fn} {ops : Array Oper} {e : EOp} (hok : okOp P ops o e = true) (hC : ∀ f, f ∈ calleeOf e.ins → Con P S f) {ρ' : List D} {A' : St} (h : e.run S ρ A = some (ρ', A'))
    (I : Inv g A w) (E : Env g a.tmps ρ) {next : Act → World → Prop} {Q : Exit → Act → World → Prop}
    (hn : ∀ g' w' a', Inv g' A' w' → Env g' a'.tmps ρ' → a'.defers = a.defers → Fr A g w A' g' w' → next a' w') :
    (if Region.wanted o (yielded ops a.tmps) then o.wp P a w next Q ∨ (o.asks P a w ∧ LetsOut Q) else next (a.put o.dst undef) w) := by
  simp only [okOp, Bool.and_eq_true, decide_eq_true_eq, Bool.or_eq_true] at hok
  obtain ⟨⟨hdst, hgd⟩, hins⟩ := hok
  have go : ∀ {d : D} {A2 : St}, e.ins.run S ρ A = some (d, A2) → A2 = A' → (match e.dst with | some t => ρ.set t d | none => ρ) = ρ' → o.wp P a w next Q := by
    intro d A2 hrun e1 e2
    subst e1
    unfold Oper.wp
    rcases hins with ⟨hi, hnc⟩ | hi
    · obtain ⟨v, w', g', hr, I', hR, F⟩ := ins_good I E hnc hi hrun
      have E' := (E.mono F.le).put (ds := a.defers) hR e.dst
      rcases hr with hr | ⟨hr, rfl⟩
      · rw [hr]
        simp only [Oper.upon_value]
        refine hn g' w' _ I' ?_ (put_defers _ _ _) F
        rw [hdst, ← e2]; exact E'
      · rw [hr]
        simp only [Oper.upon_skip]
        refine hn g' w' _ I' ?_ (put_defers _ _ _) F
        rw [hdst, ← e2]; exact E'
    · generalize hop : o.op = op at hi
      generalize hie : e.ins = ie at hi hrun hC
      unfold okCall at hi
      split at hi
      · rename_i f args ts f' ys sel m
        simp only [Bool.and_eq_true, beq_iff_eq] at hi
        obtain ⟨⟨rfl, hargs⟩, hf⟩ := hi
        split at hf
        · rename_i fn hfn
          simp only [Bool.and_eq_true, bne_iff_ne] at hf
          have hex : (execOp a.eval o).run P w = .ok (.enter f (args.map a.eval)) w := by
            have hb : fn.body.isNone = false := by simpa using hf.1
            have hnm : (fn.name == "runtime.NumGoroutine") = false := by simpa using hf.2
            simp only [execOp, hop, resolve, Act.eval, Deferred.ofValue, Sem.run_bind, Sem.run_pure, Result.andThen_ok, invoke, callFunc, run_program, hfn, hnm, hb, Bool.false_eq_true, if_false, Array.empty_append, Array.append_empty]
          rw [hex]
          simp only [Oper.upon_enter]
          have hargs2 : args.map a.eval = (args.toList.map a.eval).toArray := by apply Array.ext'; simp
          rw [hargs2]
          simp only [Ins.run] at hrun
          refine (call_good I E hargs hrun (hC f (by simp [calleeOf]))).mono ?_
          rintro en w' ⟨v, g', rfl, I', hR, F⟩
          refine hn g' w' _ I' ?_ (put_defers _ _ _) F
          have E' := (E.mono F.le).put (ds := a.defers) hR e.dst
          rw [hdst, ← e2]; exact E'
        · cases hf
      · cases hi
  have skip : (match e.dst with | some t => ρ.set t .undef | none => ρ) = ρ' → A' = A → next (a.put o.dst undef) w := by
    intro e1 e2
    subst e2
    refine hn g w _ I ?_ (put_defers _ _ _) (.refl A' g w)
    have E' := E.put (ds := a.defers) (R.undef g) e.dst
    rw [hdst, ← e1]; exact E'
  unfold EOp.run at h
  cases hg1 : o.guard with
  | none =>
    have hg2 : e.guard = none := by
      cases hx : e.guard with
      | none => rfl
      | some p => rw [hg1, hx] at hgd; simp [okGuard] at hgd
    have hw : Region.wanted o (yielded ops a.tmps) = true := by simp [Region.wanted, hg1]
    rw [if_pos hw]
    left
    simp only [hg2] at h
    split at h
    · rename_i d A2 hrun
      simp only [Option.some.injEq, Prod.mk.injEq] at h
      exact go hrun h.2 h.1
    · cases h
  | some p =>
    obtain ⟨j, want⟩ := p
    cases hg2 : e.guard with
    | none => rw [hg1, hg2] at hgd; simp [okGuard] at hgd
    | some q =>
      obtain ⟨s, want'⟩ := q
      rw [hg1, hg2] at hgd
      simp only [okGuard, Bool.and_eq_true, beq_iff_eq, decide_eq_true_eq] at hgd
      obtain ⟨rfl, hs⟩ := hgd
      simp only [hg2] at h
      have hy : ∀ b, ρ.getD s .undef = .bool b → yielded ops a.tmps j = some b := by
        intro b hb
        have hR := E.get s
        rw [hb] at hR
        have hv := hR.bool_inv
        unfold yielded
        rw [hs]
        simp only [Option.bind_some]
        rw [Array.getD_eq_getD_getElem?] at hv
        cases hx : a.tmps[s]? with
        | none => rw [hx] at hv; simp [undef] at hv
        | some u => rw [hx] at hv; simp at hv; rw [hv]
      have hy2 : ρ.getD s .undef = .tup [] → yielded ops a.tmps j = none := by
        intro hb
        have hR := E.get s
        rw [hb] at hR
        obtain ⟨vs, hv, _⟩ := hR.tup_inv
        unfold yielded
        rw [hs]
        simp only [Option.bind_some]
        rw [Array.getD_eq_getD_getElem?] at hv
        cases hx : a.tmps[s]? with
        | none => rfl
        | some u => rw [hx] at hv; simp at hv; rw [hv]
      split at h
      · rename_i b hb
        have hyy := hy b hb
        by_cases hbw : b = want
        · rw [if_pos hbw] at h
          have hw : Region.wanted o (yielded ops a.tmps) = true := by simp [Region.wanted, hg1, hyy, hbw]
          rw [if_pos hw]
          left
          split at h
          · rename_i d A2 hrun
            simp only [Option.some.injEq, Prod.mk.injEq] at h
            exact go hrun h.2 h.1
          · cases h
        · rw [if_neg hbw] at h
          have hw : Region.wanted o (yielded ops a.tmps) = false := by simp [Region.wanted, hg1, hyy, hbw]
          rw [if_neg (by rw [hw]; simp)]
          simp only [Option.some.injEq, Prod.mk.injEq] at h
          exact skip h.1 h.2.symm
      · rename_i hb
        have hyy := hy2 hb
        have hw : Region.wanted o (yielded ops a.tmps) = false := by simp [Region.wanted, hg1, hyy]
        rw [if_neg (by rw [hw]; simp)]
        simp only [Option.some.injEq, Prod.mk.injEq] at h
        exact skip h.1 h.2.symm
      · cases h

def okOps (P : Program) (all : Array Oper) : List Oper → List EOp → Bool
  | [], [] => true
  | o :: r, e :: r' => okOp P all o e && okOps P all r r'
  | _, _ => false

theorem okOps_get {all : Array Oper} : ∀ {os : List Oper} {es : List EOp}, okOps P all os es = true → os.length = es.length ∧ ∀ (i : Nat) o e, os[i]? = some o → es[i]? = some e → okOp P all o e = true
  | [], [], _ => ⟨rfl, fun i o e h _ => by simp at h⟩
  | o :: r, e :: r', h => by
    simp only [okOps, Bool.and_eq_true] at h
    obtain ⟨h1, h2⟩ := okOps_get h.2
    refine ⟨by simp [h1], fun i o' e' ho he => ?_⟩
    cases i with
    | zero => simp at ho he; subst ho; subst he; exact h.1
    | succ i => simp at ho he; exact h2 i o' e' ho he
  | [], _ :: _, h => by simp [okOps] at h
  | _ :: _, [], h => by simp [okOps] at h

/-- operations in any row l -/
theorem ops_sound {S : Nat → Option Fn} {ops : Array Oper} {es : List EOp} (hok : okOps P ops ops.toList es = true) (hC : ∀ e, e ∈ es → ∀ f, f ∈ calleeOf e.ins → Con P S f) {Q : Exit → Act → World → Prop} :
    ∀ (l : List Nat) (eo : List EOp) (ρ : List D) (A : St) (ρ' : List D) (A' : St), (l.mapM fun i => es[i]?) = some eo → runOps S eo ρ A = some (ρ', A') → ∀ (g : G) (w : World) (a : Act), Inv g A w → Env g a.tmps ρ →
      (∀ g' w' a', Inv g' A' w' → Env g' a'.tmps ρ' → a'.defers = a.defers → Fr A g w A' g' w' → Q .normal a' w') → wpOps P ops Q l a w
  | [], eo, ρ, A, ρ', A', hl, h, g, w, a, I, E, hq => by
    simp at hl
    subst hl
    simp only [runOps, Option.some.injEq, Prod.mk.injEq] at h
    obtain ⟨rfl, rfl⟩ := h
    exact hq g w a I E rfl (.refl A g w)
  | i :: l, eo, ρ, A, ρ', A', hl, h, g, w, a, I, E, hq => by
    rw [List.mapM_cons] at hl
    simp only [bind, Option.bind_eq_some_iff, pure, Option.some.injEq] at hl
    obtain ⟨e, he, eo', hl', rfl⟩ := hl
    obtain ⟨hlen, hget⟩ := okOps_get hok
    have hi : i < ops.toList.length := by rw [hlen]; exact (List.getElem?_eq_some_iff.1 he).1
    have hoi : ops.toList[i]? = some ops.toList[i] := List.getElem?_eq_getElem hi
    have hoi2 : ops[i]? = some ops.toList[i] := by rw [← hoi]; simp
    simp only [runOps] at h
    split at h
    · rename_i ρ1 A1 hr
      simp only [wpOps, hoi2]
      have := op_sound (o := ops.toList[i]) (hget i _ e hoi he) (fun f hf => hC e (List.mem_of_getElem? he) f hf) hr I E (next := wpOps P ops Q l) (Q := Q) (fun g' w' a' I' E' hd F => ?_)
      · exact this
      · exact ops_sound hok hC l eo' ρ1 A1 ρ' A' hl' h g' w' a' I' E' (fun g2 w2 a2 I2 E2 hd2 F2 => hq g2 w2 a2 I2 E2 (hd2.trans hd) (F.trans F2))
    · cases h

-- ------------------------------------------------------------------ ghosts
theorem Inv.setStill (I : Inv g A w) {j : Nat} {x : Blk} (hx : (∃ c, x = .mem true c) ∨ x = .dead) (hb : BlkOk g w j x) : Inv g { A with blks := A.blks.set j x } w := by
  have hl : ∀ i, live g { A with blks := A.blks.set j x } i → live g A i := by
    intro i h
    by_cases e : i = j
    · subst e
      have hlt : i < A.blks.length := by have := live_lt h; simpa using this
      rcases h.2 with ⟨c, h⟩ | ⟨s, p, h⟩ <;> (simp only [List.getElem?_set_self hlt, Option.some.injEq] at h; rcases hx with ⟨c', rfl⟩ | rfl <;> cases h)
    · obtain ⟨h0, h⟩ := h
      simp only [List.getElem?_set_ne (fun h => e h.symm)] at h
      exact ⟨h0, h⟩
  refine ⟨by simp [I.nb], I.nt, I.mem, fun i y hy => ?_, I.tok, I.rho, fun i i' x x' e => I.exb i i' (hl i x) (hl i' x') e, I.exr, fun i k en sz x hk => I.exm i k en sz (hl i x) hk⟩
  by_cases e : i = j
  · subst e
    have hlt : i < A.blks.length := by have := (List.getElem?_eq_some_iff.1 hy).1; simpa using this
    simp only [List.getElem?_set_self hlt, Option.some.injEq] at hy
    subst hy; exact hb
  · simp only [List.getElem?_set_ne (fun h => e h.symm)] at hy
    exact I.blk i y hy

theorem still_sub {j b : Nat} {x : Blk} (hx : (∃ c, x = .mem true c) ∨ x = .dead) (h : Owns g { A with blks := A.blks.set j x } b) : Owns g A b := by
  rcases h with ⟨i, hi, e⟩ | h
  · by_cases ee : i = j
    · subst ee
      have hlt : i < A.blks.length := by have := live_lt hi; simpa using this
      rcases hi.2 with ⟨c, h⟩ | ⟨s, p, h⟩ <;> (simp only [List.getElem?_set_self hlt, Option.some.injEq] at h; rcases hx with ⟨c', rfl⟩ | rfl <;> cases h)
    · obtain ⟨h0, h⟩ := hi
      simp only [List.getElem?_set_ne (fun h => ee h.symm)] at h
      exact .inl ⟨i, ⟨h0, h⟩, e⟩
  · exact .inr h

theorem set_set_blks (A : St) (j : Nat) (x y : Blk) : ({ ({ A with blks := A.blks.set j x } : St) with blks := ({ A with blks := A.blks.set j x } : St).blks.set j y } : St) = { A with blks := A.blks.set j y } := by
  simp

theorem gh_sound {gh : Gh} {ρ' : List D} {A' : St} (h : gh.run ρ A = some (ρ', A')) (I : Inv g A w) {t : Array Value} (E : Env g t ρ) : ∃ g', Inv g' A' w ∧ Env g' t ρ' ∧ Fr A g w A' g' w := by
  have pres : ∀ {g' : G} {A2 : St}, GLe g g' → (∀ b, b < w.heap.size → ¬ Owns g A b → ∀ o, g'.mu b o = g.mu b o) → (∀ b, Owns g' A2 b → Owns g A b) → Fr A g w A2 g' w :=
    fun le hm hO => ⟨le, Nat.le_refl _, fun _ _ _ => rfl, hm, fun b _ h => hO b h, rfl, rfl, rfl⟩
  have Eset : ∀ {g' : G} {n : Nat} {d : D}, Env g' t ρ → (n < ρ.length → R g' (t.getD n undef) d) → Env g' t (ρ.set n d) := by
    intro g' n d E hR
    refine ⟨by simp [E.1], fun i v e hv he => ?_⟩
    by_cases hin : n = i
    · subst hin
      have hl : n < ρ.length := by have := (List.getElem?_eq_some_iff.1 he).1; simpa using this
      rw [List.getElem?_set_self hl] at he
      cases he
      have := hR hl
      rw [Array.getD_eq_getD_getElem?, hv] at this; exact this
    · rw [List.getElem?_set_ne hin] at he
      exact E.2 i v e hv he
  cases gh with
  | frz n =>
    simp only [Gh.run] at h
    split at h
    · rename_i j off hj
      split at h
      · rename_i cells hb
        split at h
        · rename_i hp
          simp only [Option.some.injEq, Prod.mk.injEq] at h
          obtain ⟨rfl, rfl⟩ := h
          have hB := I.blk j _ hb
          have hpc : ∀ c, c ∈ cells → c.pc = true := fun c hc => List.all_eq_true.1 hp c hc
          rcases hB with ⟨h0, rfl⟩ | ⟨h0, h1, h2, h3, h4, h5⟩
          · refine ⟨g, I.setStill (.inl ⟨_, rfl⟩) ⟨hpc, fun i d hd => by simp at hd⟩, E, pres (.refl g) (fun _ _ _ _ => rfl) (fun b hO => still_sub (.inl ⟨_, rfl⟩) hO)⟩
          · have hl : live g A j := live_of h0 hb (.inl ⟨_, rfl⟩)
            have hmu : ∀ o, (g.m j).2.1 ≤ o → o < (g.m j).2.1 + cells.length → g.mu (g.m j).1 o = none := fun o h _ => h3 o h
            have I1 := (I.drop j).ext (b := (g.m j).1) (drop_not I hl) hmu
            have le := ext_le (g := g) w hmu
            have I2 := I1.setStill (j := j) (x := .mem true cells) (.inl ⟨_, rfl⟩) ⟨hpc, fun i d hd => by
              obtain ⟨v, hv, hR⟩ := h5 i d hd
              have hi := (List.getElem?_eq_some_iff.1 hd).1
              refine ⟨v, ?_, hR.mono le⟩
              show (if _ then _ else _) = _
              rw [if_pos (by refine ⟨rfl, ?_, ?_⟩ <;> simp only [G.ext] <;> omega)]
              exact hv⟩
            rw [set_set_blks] at I2
            refine ⟨_, I2, E.mono le, pres le (fun b _ hno o => ext_other w (fun e => hno (.inl ⟨j, hl, e.symm⟩)) o) (fun b hO => ?_)⟩
            exact still_sub (g := g) (.inl ⟨_, rfl⟩) hO
        · cases h
      · cases h
    · cases h
  | frzS n m =>
    simp only [Gh.run] at h
    split at h
    · rename_i j off wd k hj
      split at h
      · rename_i cells hb
        split at h
        · rename_i hp
          obtain ⟨rfl, hcl, hwd, hp⟩ := hp
          simp only [Option.some.injEq, Prod.mk.injEq] at h
          obtain ⟨rfl, rfl⟩ := h
          have hB := I.blk j _ hb
          have hR := E.get n
          rw [hj] at hR
          obtain ⟨hjn, hv⟩ := hR.loc_inv
          have I1 := I.drop j
          have hlen := chunks_length wd k cells
          rcases hv with ⟨cap, hv, hcap, hlim⟩ | ⟨p, hv, rfl, hsp⟩
          · simp only [Nat.add_zero] at hv hlim
            rcases hB with ⟨h0, rfl⟩ | ⟨h0, h1, h2, h3, h4, h5⟩
            · -- nothing there: width or length 0
              have hcw : cap * wd = 0 := by omega
              have hc0 : cap = 0 := (Nat.mul_eq_zero.1 hcw).resolve_right (by omega)
              have hk0 : k = 0 := by omega
              subst hk0
              subst hc0
              obtain ⟨g', I', hR', le, hmu, hO⟩ := newSl_ok0 I1 (some ⟨(g.m j).1, (g.m j).2.1, none⟩) (fun x hx => by cases hx; rfl) wd (if m = .trk then .any else m) (o := .any) (.inl rfl)
              exact ⟨g', I', Eset (E.mono le) (fun _ => by rw [hv]; exact hR'), pres le (fun b _ _ o => hmu b o) (fun b hb' => drop_sub (hO b hb'))⟩
            · have hl : live g A j := live_of h0 hb (.inl ⟨_, rfl⟩)
              have F : FreshAt g w (g.m j).1 (g.m j).2.1 cap wd (chunks wd k cells) := by
                refine ⟨h1, by rw [hlen]; exact hcap, chunks_wid (by omega), fun el hel c hc => List.all_eq_true.1 hp c (chunks_mem hel hc), h3, fun o q1 q2 => h4 o q1 (by omega), fun i d hd => ?_⟩
                rw [flatten_chunks hcl] at hd
                exact h5 i d hd
              obtain ⟨g', I', hR', le, hmu, hO⟩ := newSl_ok I1 F (drop_not I hl) (if m = .trk then .any else m) (o := .any) (fun _ => trivial)
              refine ⟨g', I', Eset (E.mono le) (fun _ => by rw [hv]; rw [hlen] at hR'; exact hR'), pres le (fun b _ hno o => hmu b (fun e => hno (.inl ⟨j, hl, e.symm⟩)) o) (fun b hb' => ?_)⟩
              rcases hO b hb' with e | h
              · exact .inl ⟨j, hl, e.symm⟩
              · exact drop_sub h
          · have hc0 : cells = [] := List.eq_nil_of_length_eq_zero (by simpa using hcl)
            subst hc0
            obtain ⟨g', I', hR', le, hmu, hO⟩ := newSl_ok0 I1 p hsp wd (if m = .trk then .any else m) (o := .any) (.inl rfl)
            refine ⟨g', I', Eset (E.mono le) (fun _ => by rw [hv]; exact hR'), pres le (fun b _ _ o => hmu b o) (fun b hb' => drop_sub (hO b hb'))⟩
        · cases h
      · cases h
    · cases h
  | own n =>
    simp only [Gh.run] at h
    have key : ∀ {oo : Own} {wd : Nat} {els : List (List D)}, ρ.getD n .undef = .sl oo wd els → oo = .nilk ∨ oo = .full →
        ∃ g', Inv g' { A with toks := A.toks ++ [els.length] } w ∧ Env g' t (ρ.set n (.sl (.tok A.toks.length els.length) wd els)) ∧ Fr A g w { A with toks := A.toks ++ [els.length] } g' w := by
      intro oo wd els hρ hoo
      have hR := E.get n
      rw [hρ] at hR
      obtain ⟨p, cap, hv, hcap, hown, _⟩ := hR.sl_inv
      have hcl : ∃ q, t.getD n undef = .slice q els.length els.length := by
        rcases hoo with rfl | rfl
        · have h : t.getD n undef = .slice none 0 0 := hown
          rw [hv] at h; simp only [Value.slice.injEq] at h
          refine ⟨none, ?_⟩
          rw [hv, h.1, h.2.2, h.2.1]
        · exact hown
      refine ⟨_, I.addTok els.length none (fun _ _ _ h => by cases h), Eset (E.mono (addTok_le _ _ _)) (fun _ => ?_), pres (addTok_le _ _ _) (fun _ _ _ _ => rfl) (fun b hb => ?_)⟩
      · exact (hR.mono (addTok_le _ _ _)).own ⟨by simp [G.addTok, I.nt], by simp [G.addTok, I.nt], fun _ => .inl hcl⟩
      · rcases hb.addTok with h | ⟨_, _, h⟩
        · exact h
        · cases h
    split at h
    · rename_i wd els hρ
      simp only [Option.some.injEq, Prod.mk.injEq] at h
      obtain ⟨rfl, rfl⟩ := h
      exact key hρ (.inl rfl)
    · rename_i wd els hρ
      simp only [Option.some.injEq, Prod.mk.injEq] at h
      obtain ⟨rfl, rfl⟩ := h
      exact key hρ (.inr rfl)
    · cases h

end Ev

namespace Ev
open Go

variable {P : Program} {A : St} {g : G} {w w1 : World} {a : Act} {ρ : List D} {o : Oper} {S : Nat → Option Fn}

def Ins.opds : Ins → List Opd
  | .mov x | .nilc x | .box x | .load _ _ x | .neg _ x | .cv _ _ x | .arrp _ x | .fadr _ x | .ext _ x | .len x | .lenT x | .rng x | .nxt x => [x]
  | .pick c a b => [c, a, b]
  | .alloc _ | .lenC _ | .never => []
  | .build _ ps => ps.map (·.2.2)
  | .bsl _ _ _ _ ps => ps.map (·.2)
  | .store _ x v | .bin _ x v | .eqb _ x v | .eqa _ _ x v | .eqnil _ x v | .iadrS _ x v | .iadrA _ _ x v | .idxT x v | .app _ _ _ _ x v | .copyB _ x v => [x, v]
  | .slS _ x l h | .slT x l h | .slA _ _ x l h => [x] ++ l.toList ++ h.toList
  | .call _ args _ _ => args
  | .mm _ args => args
  | .mk _ _ _ _ x => [x]

theorem map_ev {ρ ρ' : List D} {xs : List Opd} (h : ∀ x, x ∈ xs → x.ev ρ = x.ev ρ') : xs.map (·.ev ρ) = xs.map (·.ev ρ') := List.map_congr_left h

theorem opt_ev {ρ ρ' : List D} {x : Option Opd} (h : ∀ y, y ∈ x.toList → y.ev ρ = y.ev ρ') : x.map (·.ev ρ) = x.map (·.ev ρ') := by
  cases x with
  | none => rfl
  | some y => simp [h y (by simp)]

theorem run_congr {ρ ρ' : List D} (i : Ins) (h : ∀ x, x ∈ i.opds → x.ev ρ = x.ev ρ') : i.run S ρ A = i.run S ρ' A := by
  cases i with
  | build zs ps =>
    simp only [Ins.run]
    rw [show (ps.map fun p => (p.1, p.2.1, (p.2.2).ev ρ)) = ps.map fun p => (p.1, p.2.1, (p.2.2).ev ρ') from List.map_congr_left fun p hp => by rw [h _ (by simp only [Ins.opds]; exact List.mem_map_of_mem hp)]]
  | bsl m w zs ln ps =>
    simp only [Ins.run]
    rw [show (ps.map fun p => (p.1 * w, w, (p.2).ev ρ)) = ps.map fun p => (p.1 * w, w, (p.2).ev ρ') from List.map_congr_left fun p hp => by rw [h _ (by simp only [Ins.opds]; exact List.mem_map_of_mem hp)]]
  | call f args sel m => simp only [Ins.run]; rw [map_ev (xs := args) (fun x hx => h x hx)]
  | mm mx args => simp only [Ins.run]; rw [map_ev (xs := args) (fun x hx => h x hx)]
  | slS w x l hh => simp only [Ins.run]; rw [h x (by simp [Ins.opds]), opt_ev (x := l) (fun y hy => h y (by simp only [Ins.opds, List.mem_append]; exact .inl (.inr hy))), opt_ev (x := hh) (fun y hy => h y (by simp only [Ins.opds, List.mem_append]; exact .inr hy))]
  | slT x l hh => simp only [Ins.run]; rw [h x (by simp [Ins.opds]), opt_ev (x := l) (fun y hy => h y (by simp only [Ins.opds, List.mem_append]; exact .inl (.inr hy))), opt_ev (x := hh) (fun y hy => h y (by simp only [Ins.opds, List.mem_append]; exact .inr hy))]
  | slA w n x l hh => simp only [Ins.run]; rw [h x (by simp [Ins.opds]), opt_ev (x := l) (fun y hy => h y (by simp only [Ins.opds, List.mem_append]; exact .inl (.inr hy))), opt_ev (x := hh) (fun y hy => h y (by simp only [Ins.opds, List.mem_append]; exact .inr hy))]
  | pick c x y => simp only [Ins.run]; rw [h c (by simp [Ins.opds]), h x (by simp [Ins.opds]), h y (by simp [Ins.opds])]
  | alloc zs => rfl
  | lenC n => rfl
  | never => rfl
  | mov x => simp only [Ins.run]; rw [h x (by simp [Ins.opds])]
  | nilc x => simp only [Ins.run]; rw [h x (by simp [Ins.opds])]
  | box x => simp only [Ins.run]; rw [h x (by simp [Ins.opds])]
  | load w ag x => simp only [Ins.run]; rw [h x (by simp [Ins.opds])]
  | neg op x => simp only [Ins.run]; rw [h x (by simp [Ins.opds])]
  | cv m c x => simp only [Ins.run]; rw [h x (by simp [Ins.opds])]
  | arrp n x => simp only [Ins.run]; rw [h x (by simp [Ins.opds])]
  | fadr n x => simp only [Ins.run]; rw [h x (by simp [Ins.opds])]
  | ext n x => simp only [Ins.run]; rw [h x (by simp [Ins.opds])]
  | len x => simp only [Ins.run]; rw [h x (by simp [Ins.opds])]
  | lenT x => simp only [Ins.run]; rw [h x (by simp [Ins.opds])]
  | rng x => simp only [Ins.run]; rw [h x (by simp [Ins.opds])]
  | nxt x => simp only [Ins.run]; rw [h x (by simp [Ins.opds])]
  | mk m w bs zs x => simp only [Ins.run]; rw [h x (by simp [Ins.opds])]
  | store w x y => simp only [Ins.run]; rw [h x (by simp [Ins.opds]), h y (by simp [Ins.opds])]
  | bin op x y => simp only [Ins.run]; rw [h x (by simp [Ins.opds]), h y (by simp [Ins.opds])]
  | eqb ng x y => simp only [Ins.run]; rw [h x (by simp [Ins.opds]), h y (by simp [Ins.opds])]
  | eqa n ng x y => simp only [Ins.run]; rw [h x (by simp [Ins.opds]), h y (by simp [Ins.opds])]
  | eqnil ng x y => simp only [Ins.run]; rw [h x (by simp [Ins.opds]), h y (by simp [Ins.opds])]
  | iadrS w x y => simp only [Ins.run]; rw [h x (by simp [Ins.opds]), h y (by simp [Ins.opds])]
  | iadrA w n x y => simp only [Ins.run]; rw [h x (by simp [Ins.opds]), h y (by simp [Ins.opds])]
  | idxT x y => simp only [Ins.run]; rw [h x (by simp [Ins.opds]), h y (by simp [Ins.opds])]
  | app st m w bs x y => simp only [Ins.run]; rw [h x (by simp [Ins.opds]), h y (by simp [Ins.opds])]
  | copyB w x y => simp only [Ins.run]; rw [h x (by simp [Ins.opds]), h y (by simp [Ins.opds])]

/-- it looks at no memory -/
def Ins.heapless : Ins → Bool
  | .mov _ | .nilc _ | .pick .. | .build .. | .bin .. | .eqb .. | .eqa .. | .eqnil .. | .neg .. | .arrp .. | .slS .. | .slT .. | .fadr .. | .iadrS .. | .iadrA .. | .idxT .. | .ext .. | .len _ | .lenT _ | .lenC _ | .mm .. => true
  | .bsl .any .. | .mk .any .. => true
  | .cv .any c _ => match c with | .ofBytes => false | _ => true
  | .call _ _ [] .any => true
  | _ => false

/-- it turns no memory -/
def Ins.still : Ins → Bool
  | .load .. | .slA .. | .cv .any .. => true
  | i => i.heapless

theorem takeRess_any : ∀ (ds : List D) (A A' : St), (takeRess .any A ds).2 = A ∧ (takeRess .any A ds).1 = (takeRess .any A' ds).1
  | [], A, A' => ⟨rfl, rfl⟩
  | d :: ds, A, A' => by
    have h : ∀ B : St, (takeRes .any B d).2 = B ∧ (takeRes .any B d).1 = (takeRes .any A d).1 := by
      intro B; unfold takeRes; split <;> simp [St.newSl]
    obtain ⟨h1, h2⟩ := h A
    obtain ⟨h1', h2'⟩ := h A'
    simp only [takeRess]
    rw [h1, h1']
    obtain ⟨h3, h4⟩ := takeRess_any ds A A'
    exact ⟨h3, by rw [h2', h4]⟩

theorem takeResT_any (d : D) (A A' : St) : takeResT .any A d = ((takeResT .any A d).1, A) ∧ (takeResT .any A d).1 = (takeResT .any A' d).1 := by
  unfold takeResT
  split
  · obtain ⟨h1, h2⟩ := takeRess_any ‹_› A A'
    exact ⟨by simp [h1], by simp [h2]⟩
  · unfold takeRes; split <;> simp [St.newSl]

theorem setBlks_nil (bs B : List Blk) : setBlks bs [] B = bs := by cases B <;> rfl

theorem callD_nil (A : St) (f : Nat) (args : List D) : callD S A f args [] .any = (match S f with
    | none => none
    | some F => match args.mapM (D.ren []) with
      | none => none
      | some args' => match F args' [] with
        | some (r, B') => if B'.length = 0 then some (takeResT .any A r) else none
        | none => none) := by
  unfold callD
  cases S f with
  | none => rfl
  | some F =>
    simp only [List.mapM_nil, pure]
    cases args.mapM (D.ren []) with
    | none => rfl
    | some args' => simp [setBlks_nil]; rfl

theorem heapless_run {i : Ins} (hi : i.heapless = true) {d : D} {A1 : St} (h : i.run S ρ A = some (d, A1)) : A1 = A ∧ ∀ A', i.run S ρ A' = some (d, A') := by
  have one : ∀ {f : Option D}, (match f with | some d => some (d, A) | none => none) = some (d, A1) → A1 = A ∧ ∀ A' : St, (match f with | some d => some (d, A') | none => none) = some (d, A') := by
    intro f hf
    cases f with
    | none => cases hf
    | some x => simp at hf; obtain ⟨rfl, rfl⟩ := hf; exact ⟨rfl, fun _ => rfl⟩
  cases i <;> (try simp only [Ins.heapless] at hi) <;> try (cases hi; done)
  case bsl m w zs ln ps =>
    cases m <;> try (cases hi; done)
    simp only [Ins.run] at h ⊢
    split at h
    · split at h
      · simp [St.newSl] at h; obtain ⟨rfl, rfl⟩ := h
        exact ⟨rfl, fun A' => by simp_all [St.newSl]⟩
      · cases h
    · cases h
  case mk m w bs zs x =>
    cases m <;> try (cases hi; done)
    simp only [Ins.run] at h ⊢
    split at h
    · split at h
      · simp [St.newSl] at h; obtain ⟨rfl, rfl⟩ := h
        exact ⟨rfl, fun A' => by simp_all [St.newSl]⟩
      · cases h
    · cases h
  case cv m c x =>
    cases m <;> try (cases hi; done)
    simp only [Ins.run] at h ⊢
    generalize x.ev ρ = y at h ⊢
    cases c <;> try (cases hi; done)
    all_goals (cases y <;> simp only [cvD, St.newSl, Option.some.injEq, Prod.mk.injEq, reduceCtorEq] at h ⊢)
    all_goals (obtain ⟨rfl, rfl⟩ := h; exact ⟨rfl, fun _ => by simp⟩)
  case call f args sel m =>
    cases sel with
    | cons _ _ => cases hi
    | nil =>
      cases m <;> try (cases hi; done)
      simp only [Ins.run, callD_nil] at h ⊢
      split at h
      · cases h
      · rename_i F hF
        split at h
        · cases h
        · rename_i args' ha
          split at h
          · rename_i r B' hr
            split at h
            · rename_i hl
              obtain ⟨e1, _⟩ := takeResT_any r A A
              rw [e1] at h
              simp only [Option.some.injEq, Prod.mk.injEq] at h
              obtain ⟨rfl, rfl⟩ := h
              refine ⟨rfl, fun A' => ?_⟩
              obtain ⟨e2, e3⟩ := takeResT_any r A' A
              rw [if_pos hl, e2, e3]
            · cases h
          · cases h
  all_goals (simp only [Ins.run] at h ⊢)
  all_goals first
    | exact one h
    | (simp only [Option.some.injEq, Prod.mk.injEq] at h; obtain ⟨rfl, rfl⟩ := h; exact ⟨rfl, fun _ => rfl⟩)
    | ((repeat' split at h) <;> first | (cases h; done) | (simp only [Option.some.injEq, Prod.mk.injEq] at h; obtain ⟨rfl, rfl⟩ := h; exact ⟨rfl, fun _ => by simp_all⟩))

theorem still_run {i : Ins} (hi : i.still = true) {d : D} {A1 : St} (h : i.run S ρ A = some (d, A1)) : A1 = A := by
  by_cases hh : i.heapless = true
  · exact (heapless_run hh h).1
  · cases i <;> (try simp only [Ins.still] at hi) <;> try (exact absurd hi hh)
    case load w ag x =>
      simp only [Ins.run] at h
      split at h
      · simp at h; exact h.2.symm
      · cases h
    case slA w n x l hh =>
      simp only [Ins.run] at h
      split at h
      · simp at h; exact h.2.symm
      · cases h
    case cv m c x =>
      cases m <;> try (exact absurd hi hh)
      simp only [Ins.run, cvD] at h
      (repeat' split at h) <;> first | (cases h; done) | (simp [St.newSl] at h; exact h.2.symm)


-- ------------------------------------------------------------------ two operations that do not meet
def slotsOf (e : EOp) : List Nat := (e.ins.opds.filterMap fun | .t n => some n | .d _ => none) ++ (match e.guard with | some (s, _) => [s] | none => [])

def comm (x y : EOp) : Bool :=
  (match x.dst with | some d => !(slotsOf y).contains d && y.dst != some d | none => true) &&
  (match y.dst with | some d => !(slotsOf x).contains d | none => true) &&
  (x.ins.heapless || y.ins.heapless || x.ins.still && y.ins.still)

def putD (ρ : List D) (dst : Option Nat) (d : D) : List D := match dst with | some t => ρ.set t d | none => ρ

theorem putD_ev {ρ : List D} {dst : Option Nat} {d : D} {x : Opd} (h : ∀ t, dst = some t → x ≠ .t t) : x.ev (putD ρ dst d) = x.ev ρ := by
  cases dst with
  | none => rfl
  | some t =>
    cases x with
    | d _ => rfl
    | t n =>
      have hne : t ≠ n := fun e => h t rfl (by rw [e])
      simp [Opd.ev, putD, List.getD, List.getElem?_set_ne hne]

theorem putD_get {ρ : List D} {dst : Option Nat} {d : D} {s : Nat} (h : ∀ t, dst = some t → s ≠ t) : (putD ρ dst d).getD s .undef = ρ.getD s .undef := by
  cases dst with
  | none => rfl
  | some t => simp only [putD, List.getD]; rw [List.getElem?_set_ne (fun e => h t rfl e.symm)]

theorem putD_comm {ρ : List D} {x y : Option Nat} (d e : D) (h : ∀ t, x = some t → y ≠ some t) : putD (putD ρ x d) y e = putD (putD ρ y e) x d := by
  cases x with
  | none => rfl
  | some t =>
    cases y with
    | none => rfl
    | some u =>
      have hne : t ≠ u := fun e' => h t rfl (by rw [e'])
      exact List.set_comm _ _ hne

/-- what an operation does, said by its result: it is left out, or it runs -/
def EOp.yields (S : Nat → Option Fn) (e : EOp) (ρ : List D) (A : St) (d : D) (A' : St) : Prop :=
  (e.guard = none ∧ e.ins.run S ρ A = some (d, A')) ∨
  (∃ s want, e.guard = some (s, want) ∧ ((ρ.getD s .undef = .bool want ∧ e.ins.run S ρ A = some (d, A')) ∨ ((ρ.getD s .undef = .bool (!want) ∨ ρ.getD s .undef = .tup []) ∧ d = .undef ∧ A' = A)))

theorem run_iff {e : EOp} {ρ' : List D} {A' : St} : e.run S ρ A = some (ρ', A') ↔ ∃ d, e.yields S ρ A d A' ∧ ρ' = putD ρ e.dst d := by
  unfold EOp.run EOp.yields
  cases hg : e.guard with
  | none =>
    simp only [true_and, reduceCtorEq, false_and, exists_const, or_false]
    cases hr : e.ins.run S ρ A with
    | none => simp
    | some p =>
      obtain ⟨d, A2⟩ := p
      simp only [Option.some.injEq, Prod.mk.injEq, putD]
      constructor
      · rintro ⟨rfl, rfl⟩; exact ⟨d, ⟨rfl, rfl⟩, rfl⟩
      · rintro ⟨d', ⟨rfl, rfl⟩, rfl⟩; exact ⟨rfl, rfl⟩
  | some q =>
    obtain ⟨s, want⟩ := q
    simp only [reduceCtorEq, false_and, Option.some.injEq, Prod.mk.injEq, false_or]
    constructor
    · intro h
      split at h
      · rename_i b hb
        split at h
        · rename_i hbw
          subst hbw
          split at h
          · rename_i d A2 hr
            simp only [Option.some.injEq, Prod.mk.injEq] at h
            obtain ⟨rfl, rfl⟩ := h
            exact ⟨d, ⟨s, b, ⟨rfl, rfl⟩, .inl ⟨hb, hr⟩⟩, rfl⟩
          · cases h
        · rename_i hbw
          simp only [Option.some.injEq, Prod.mk.injEq] at h
          obtain ⟨rfl, rfl⟩ := h
          have : b = !want := by cases b <;> cases want <;> simp_all
          exact ⟨.undef, ⟨s, want, ⟨rfl, rfl⟩, .inr ⟨.inl (by rw [hb, this]), rfl, rfl⟩⟩, rfl⟩
      · rename_i hb
        simp only [Option.some.injEq, Prod.mk.injEq] at h
        obtain ⟨rfl, rfl⟩ := h
        exact ⟨.undef, ⟨s, want, ⟨rfl, rfl⟩, .inr ⟨.inr hb, rfl, rfl⟩⟩, rfl⟩
      · cases h
    · rintro ⟨d, ⟨s', want', ⟨rfl, rfl⟩, h⟩, rfl⟩
      rcases h with ⟨hb, hr⟩ | ⟨hb | hb, rfl, rfl⟩
      · rw [hb]; simp only [if_true, hr, putD]; rfl
      · rw [hb]; simp only; rw [if_neg (by cases want <;> simp)]; rfl
      · rw [hb]; rfl

theorem mem_slots_ev {e : EOp} {t : Nat} (h : t ∉ slotsOf e) : (∀ x, x ∈ e.ins.opds → x ≠ .t t) ∧ ∀ s b, e.guard = some (s, b) → s ≠ t := by
  simp only [slotsOf, List.mem_append, List.mem_filterMap, not_or, not_exists] at h
  refine ⟨fun x hx e' => h.1 x ⟨hx, by rw [e']⟩, fun s b hg e' => h.2 (by rw [hg, e']; simp)⟩

theorem yields_put {e : EOp} {dst : Option Nat} {u d : D} {A' : St} (h : ∀ t, dst = some t → t ∉ slotsOf e) : e.yields S (putD ρ dst u) A d A' ↔ e.yields S ρ A d A' := by
  have hr : e.ins.run S (putD ρ dst u) A = e.ins.run S ρ A := run_congr _ fun x hx => putD_ev fun t ht => (mem_slots_ev (h t ht)).1 x hx
  have hg : ∀ s b, e.guard = some (s, b) → (putD ρ dst u).getD s .undef = ρ.getD s .undef := fun s b hgd => putD_get fun t ht => (mem_slots_ev (h t ht)).2 s b hgd
  unfold EOp.yields
  rw [hr]
  constructor
  · rintro (h | ⟨s, b, hs, h⟩)
    · exact .inl h
    · rw [hg s b hs] at h; exact .inr ⟨s, b, hs, h⟩
  · rintro (h | ⟨s, b, hs, h⟩)
    · exact .inl h
    · rw [← hg s b hs] at h; exact .inr ⟨s, b, hs, h⟩

theorem yields_heapless {e : EOp} (hh : e.ins.heapless = true) {d : D} {A1 : St} (h : e.yields S ρ A d A1) : A1 = A ∧ ∀ A', e.yields S ρ A' d A' := by
  rcases h with ⟨hg, h⟩ | ⟨s, b, hs, ⟨hb, h⟩ | ⟨hb, rfl, rfl⟩⟩
  · obtain ⟨rfl, h2⟩ := heapless_run hh h
    exact ⟨rfl, fun A' => .inl ⟨hg, h2 A'⟩⟩
  · obtain ⟨rfl, h2⟩ := heapless_run hh h
    exact ⟨rfl, fun A' => .inr ⟨s, b, hs, .inl ⟨hb, h2 A'⟩⟩⟩
  · exact ⟨rfl, fun A' => .inr ⟨s, b, hs, .inr ⟨hb, rfl, rfl⟩⟩⟩

theorem yields_still {e : EOp} (hh : e.ins.still = true) {d : D} {A1 : St} (h : e.yields S ρ A d A1) : A1 = A := by
  rcases h with ⟨_, h⟩ | ⟨s, b, _, ⟨_, h⟩ | ⟨_, _, h⟩⟩
  · exact still_run hh h
  · exact still_run hh h
  · exact h

theorem comm_swap {x y : EOp} (hc : comm x y = true) {ρ1 ρ2 : List D} {A1 A2 : St} (hx : x.run S ρ A = some (ρ1, A1)) (hy : y.run S ρ1 A1 = some (ρ2, A2)) :
    ∃ ρ1' A1', y.run S ρ A = some (ρ1', A1') ∧ x.run S ρ1' A1' = some (ρ2, A2) := by
  simp only [comm, Bool.and_eq_true] at hc
  obtain ⟨⟨h1, h2⟩, h3⟩ := hc
  obtain ⟨dx, yx, rfl⟩ := run_iff.1 hx
  obtain ⟨dy, yy, rfl⟩ := run_iff.1 hy
  have n1 : ∀ t, x.dst = some t → t ∉ slotsOf y := fun t ht => by
    simp only [ht, Bool.and_eq_true, Bool.not_eq_true', List.contains_eq_mem, decide_eq_false_iff_not] at h1; exact h1.1
  have n2 : ∀ t, x.dst = some t → y.dst ≠ some t := fun t ht => by
    simp only [ht, Bool.and_eq_true, bne_iff_ne] at h1; exact h1.2
  have n3 : ∀ t, y.dst = some t → t ∉ slotsOf x := fun t ht => by
    simp only [ht, Bool.not_eq_true', List.contains_eq_mem, decide_eq_false_iff_not] at h2; exact h2
  rw [yields_put n1] at yy
  have fin : ∀ {B : St}, y.yields S ρ A dy B → x.yields S ρ B dx A2 → ∃ ρ1' A1', y.run S ρ A = some (ρ1', A1') ∧ x.run S ρ1' A1' = some (putD (putD ρ x.dst dx) y.dst dy, A2) := fun a b =>
    ⟨_, _, run_iff.2 ⟨dy, a, rfl⟩, run_iff.2 ⟨dx, (yields_put n3).2 b, putD_comm _ _ n2⟩⟩
  simp only [Bool.or_eq_true, Bool.and_eq_true] at h3
  rcases h3 with (h3 | h3) | ⟨h3, h4⟩
  · obtain ⟨rfl, ha⟩ := yields_heapless h3 yx
    exact fin yy (ha A2)
  · obtain ⟨rfl, ha⟩ := yields_heapless h3 yy
    exact fin (ha A) yx
  · have e1 := yields_still h3 yx
    subst e1
    have e2 := yields_still h4 yy
    subst e2
    exact fin yy yx

-- ------------------------------------------------------------------ any order
/-- from here on, whatever comes up: the plain machine comes to (ρ', A') -/
def anyD (S : Nat → Option Fn) (ops : Array Oper) (es : List EOp) (ρ' : List D) (A' : St) : Nat → Array Bool → List D → St → Prop
  | 0, listed, ρ, A => Region.ready .any ops listed = [] ∧ ρ = ρ' ∧ A = A'
  | fuel + 1, listed, ρ, A => (Region.ready .any ops listed = [] → ρ = ρ' ∧ A = A') ∧
    ∀ i, i ∈ Region.ready .any ops listed → ∃ e ρ1 A1, es[i]? = some e ∧ e.run S ρ A = some (ρ1, A1) ∧ anyD S ops es ρ' A' fuel (listed.setIfInBounds i true) ρ1 A1

theorem anyD_first {ops : Array Oper} {es : List EOp} {ρf : List D} {Af : St} {i : Nat} {ei : EOp} (hei : es[i]? = some ei) :
    ∀ (fuel : Nat) (listed : Array Bool) (ρ : List D) (A : St) (ρ1 : List D) (A1 : St),
      (∀ j ej, es[j]? = some ej → j ≠ i → listed.getD j true = false → (∀ oj, ops[j]? = some oj → ∀ e ∈ oj.after, Region.binds .any e = true → e.on ≠ i) → comm ei ej = true) →
      i ∈ Region.ready .any ops listed → ei.run S ρ A = some (ρ1, A1) → anyD S ops es ρf Af fuel (listed.setIfInBounds i true) ρ1 A1 → anyD S ops es ρf Af (fuel + 1) listed ρ A := by
  intro fuel
  induction fuel with
  | zero =>
    intro listed ρ A ρ1 A1 _ hr hx H
    refine ⟨fun h => (by rw [h] at hr; cases hr), fun j hj => ?_⟩
    by_cases hji : j = i
    · subst hji; exact ⟨ei, ρ1, A1, hei, hx, H⟩
    · have := ready_mono hj hji
      rw [H.1] at this
      cases this
  | succ fuel ih =>
    intro listed ρ A ρ1 A1 hfree hr hx H
    refine ⟨fun h => (by rw [h] at hr; cases hr), fun j hj => ?_⟩
    by_cases hji : j = i
    · subst hji; exact ⟨ei, ρ1, A1, hei, hx, H⟩
    · obtain ⟨ej, ρ2, A2, hej, hy, H2⟩ := H.2 j (ready_mono hj hji)
      obtain ⟨hjun, oj, hoj, hall⟩ := mem_ready.1 hj
      have hnot : ∀ oj', ops[j]? = some oj' → ∀ e ∈ oj'.after, Region.binds .any e = true → e.on ≠ i := fun oj' hoj' e he hb heq => by
        rw [hoj] at hoj'; cases hoj'
        have h1 := hall e he hb
        have h0 := (mem_ready.1 hr).1
        rw [heq] at h1
        rcases Nat.lt_or_ge i listed.size with h' | h'
        · simp [h'] at h0 h1; rw [h0] at h1; cases h1
        · simp [Array.getElem?_eq_none h'] at h1
      have hc := hfree j ej hej hji hjun hnot
      obtain ⟨ρ1', A1', h1, h2⟩ := comm_swap hc hx hy
      have hfree' : ∀ k ek, es[k]? = some ek → k ≠ i → (listed.setIfInBounds j true).getD k true = false →
          (∀ ok, ops[k]? = some ok → ∀ e ∈ ok.after, Region.binds .any e = true → e.on ≠ i) → comm ei ek = true := fun k ek hk hki hun hno => by
        refine hfree k ek hk hki ?_ hno
        by_cases hjk : j = k
        · subst hjk; exact hjun
        · rw [getD_set_ne true hjk] at hun; exact hun
      refine ⟨ej, ρ1', A1', hej, h1, ih (listed.setIfInBounds j true) ρ1' A1' ρ2 A2 hfree' (ready_mono hr (Ne.symm hji)) h2 ?_⟩
      rw [Array.setIfInBounds_comm _ _ hji]
      exact H2

/-- at each operation of the text's row: it may come up, and whatever waits not for it does not meet it -/
def okFrom (ops : Array Oper) (es : List EOp) : Nat → Nat → Array Bool → Bool
  | 0, _, listed => (Region.ready .any ops listed).isEmpty
  | n + 1, k, listed => (Region.ready .any ops listed).contains k && (match es[k]? with
      | some ek => (List.range es.length).all fun j => j == k || listed.getD j true || (match ops[j]? with | some oj => oj.after.any fun e => Region.binds .any e && e.on == k | none => false) ||
          (match es[j]? with | some ej => comm ek ej | none => true)
      | none => false) && okFrom ops es n (k + 1) (listed.setIfInBounds k true)

theorem anyD_text {ops : Array Oper} {es : List EOp} {ρf : List D} {Af : St} : ∀ (l : List EOp) (k : Nat) (listed : Array Bool) (ρ : List D) (A : St), (∀ j, l[j]? = es[k + j]?) → okFrom ops es l.length k listed = true →
    runOps S l ρ A = some (ρf, Af) → anyD S ops es ρf Af l.length listed ρ A
  | [], k, listed, ρ, A, _, hok, h => by
    simp only [runOps, Option.some.injEq, Prod.mk.injEq] at h
    exact ⟨by simpa [okFrom] using hok, h.1, h.2⟩
  | e :: l, k, listed, ρ, A, hl, hok, h => by
    have h0 : es[k]? = some e := by simpa using (hl 0).symm
    simp only [List.length_cons, okFrom, h0, Bool.and_eq_true] at hok
    obtain ⟨⟨hr, hf⟩, hok'⟩ := hok
    simp only [runOps] at h
    split at h
    · rename_i ρ1 A1 hx
      refine anyD_first h0 l.length listed ρ A ρ1 A1 (fun j ej hej hjk hun hno => ?_) (by simpa using hr) hx (anyD_text l (k + 1) _ ρ1 A1 (fun j => by have := hl (j + 1); simpa [Nat.add_assoc, Nat.add_comm 1 j] using this) hok' h)
      have hjl : j < es.length := (List.getElem?_eq_some_iff.1 hej).1
      have := List.all_eq_true.1 hf j (List.mem_range.2 hjl)
      simp only [Bool.or_eq_true, hej, hun, Bool.false_eq_true, or_false, beq_iff_eq] at this
      rcases this with (h1 | h1) | h1
      · exact absurd h1 hjk
      · exfalso
        split at h1
        · rename_i oj hoj
          rw [Array.any_eq_true'] at h1
          obtain ⟨x, hx1, hx2⟩ := h1
          simp only [Bool.and_eq_true, beq_iff_eq] at hx2
          exact hno oj hoj x hx1 hx2.1 hx2.2
        · cases h1
      · exact h1
    · cases h

/-- and so does the machine -/
theorem any_sound {ops : Array Oper} {es : List EOp} (hok : okOps P ops ops.toList es = true) (hC : ∀ e, e ∈ es → ∀ f, f ∈ calleeOf e.ins → Con P S f) {Q : Exit → Act → World → Prop} {ρf : List D} {Af : St} :
    ∀ (fuel : Nat) (listed : Array Bool) (ρ : List D) (A : St) (g : G) (w : World) (a : Act), anyD S ops es ρf Af fuel listed ρ A → Inv g A w → Env g a.tmps ρ →
      (∀ g' w' a', Inv g' Af w' → Env g' a'.tmps ρf → a'.defers = a.defers → Fr A g w Af g' w' → Q .normal a' w') → wpAny P .any ops Q fuel listed a w
  | 0, listed, ρ, A, g, w, a, h, I, E, hq => by
    obtain ⟨h1, rfl, rfl⟩ := h
    exact ⟨h1, hq g w a I E rfl (.refl A g w)⟩
  | fuel + 1, listed, ρ, A, g, w, a, h, I, E, hq => by
    obtain ⟨h1, h2⟩ := h
    refine ⟨fun h0 => ?_, fun i hi => ?_⟩
    · obtain ⟨rfl, rfl⟩ := h1 h0
      exact hq g w a I E rfl (.refl A g w)
    · obtain ⟨e, ρ1, A1, he, hr, hn⟩ := h2 i hi
      obtain ⟨hlen, hget⟩ := okOps_get hok
      have hil : i < ops.toList.length := by rw [hlen]; exact (List.getElem?_eq_some_iff.1 he).1
      have hoi : ops.toList[i]? = some ops.toList[i] := List.getElem?_eq_getElem hil
      have hoi2 : ops[i]? = some ops.toList[i] := by rw [← hoi]; simp
      unfold wpOp
      simp only [hoi2]
      exact op_sound (o := ops.toList[i]) (hget i _ e hoi he) (fun f hf => hC e (List.mem_of_getElem? he) f hf) hr I E (fun g' w' a' I' E' hd F =>
        any_sound hok hC fuel _ ρ1 A1 g' w' a' hn I' E' (fun g2 w2 a2 I2 E2 hd2 F2 => hq g2 w2 a2 I2 E2 (hd2.trans hd) (F.trans F2)))

end Ev

namespace Ev
open Go

variable {P : Program} {A : St} {g : G} {w w1 : World} {a : Act} {ρ : List D} {o : Oper} {S : Nat → Option Fn}

def okD (ops : Array Oper) (es : List EOp) : Bool := ops.size == es.length && okFrom ops es es.length 0 (Array.replicate ops.size false)

def okCode (P : Program) : ECode → Code → Bool
  | .gh _ e, c => okCode P e c
  | .skip, .skip => true
  | .reg es, .region _ ops false => okOps P ops ops.toList es
  | .regD es _, .region _ ops true => okOps P ops ops.toList es && okD ops es
  | .seq a b, .seq c d => okCode P a c && okCode P b d
  | .cond x a b, .cond y c d => okOpd y x && okCode P a c && okCode P b d
  | .block id a, .block id' c => id == id' && okCode P a c
  | .loop a, .loop c => okCode P a c
  | .exit id, .exit id' => id == id'
  | .ret, .ret => true
  | _, _ => false

def calleesOf : ECode → List Nat
  | .gh _ e => calleesOf e
  | .reg es | .regD es _ => es.flatMap fun e => calleeOf e.ins
  | .seq a b => calleesOf a ++ calleesOf b
  | .cond _ a b => calleesOf a ++ calleesOf b
  | .block _ a | .loop a => calleesOf a
  | _ => []

def Ex.to : Ex → Exit
  | .normal => .normal
  | .exit id => .exit id
  | .ret => .ret

theorem code_sound (hm : P.follows .mixedOrders = true) (n : Nat) : ∀ (e : ECode) (c : Code), okCode P e c = true → (∀ f, f ∈ calleesOf e → Con P S f) → ∀ (ρ : List D) (A : St) (x : Ex) (ρ' : List D) (A' : St), e.run S n ρ A = some (x, ρ', A') →
    ∀ (g : G) (w : World) (a : Act) (Q : Exit → Act → World → Prop), Inv g A w → Env g a.tmps ρ → (∀ g' w' a', Inv g' A' w' → Env g' a'.tmps ρ' → a'.defers = a.defers → Fr A g w A' g' w' → Q x.to a' w') → c.wp P Q a w := by
  intro e
  induction e with
  | skip =>
    intro c hok _ ρ A x ρ' A' h g w a Q I E hq
    cases c <;> simp only [okCode] at hok <;> try (cases hok; done)
    simp only [ECode.run, Option.some.injEq, Prod.mk.injEq] at h
    obtain ⟨rfl, rfl, rfl⟩ := h
    exact wp_skip (hq g w a I E rfl (.refl A g w))
  | reg es =>
    intro c hok hC ρ A x ρ' A' h g w a Q I E hq
    cases c <;> try (simp [okCode] at hok; done)
    rename_i id ops dr
    cases dr with
    | true => simp [okCode] at hok
    | false =>
      simp only [okCode] at hok
      simp only [ECode.run] at h
      split at h
      · rename_i ρ1 A1 hr
        simp only [Option.some.injEq, Prod.mk.injEq] at h
        obtain ⟨rfl, rfl, rfl⟩ := h
        obtain ⟨hlen, _⟩ := okOps_get hok
        refine wp_region (ops_sound hok (fun e he f hf => hC f (by simp only [calleesOf, List.mem_flatMap]; exact ⟨e, he, hf⟩)) _ es ρ A _ _ ?_ hr g w a I E hq)
        have hsz : ops.size = es.length := by rw [← hlen]; simp
        rw [hsz]
        clear hr hok hC hq hlen hsz
        have key : ∀ (l : List EOp) (k : Nat), (∀ j, l[j]? = es[k + j]?) → ((List.range' k l.length).mapM fun i => es[i]?) = some l := by
          intro l
          induction l with
          | nil => intro k _; simp
          | cons e l ih =>
            intro k hl
            have h0 : es[k]? = some e := by simpa using (hl 0).symm
            rw [List.length_cons, List.range'_succ, List.mapM_cons, h0]
            simp only [bind, Option.bind_some, pure]
            rw [ih (k + 1) (fun j => by have := hl (j + 1); simpa [Nat.add_assoc, Nat.add_comm 1 j] using this)]
            rfl
        rw [List.range_eq_range']
        exact key es 0 (fun j => by simp)
      · cases h
  | regD es ws =>
    intro c hok hC ρ A x ρ' A' h g w a Q I E hq
    cases c <;> try (simp [okCode] at hok; done)
    rename_i id ops dr
    cases dr with
    | false => simp [okCode] at hok
    | true =>
      simp only [okCode, okD, Bool.and_eq_true, beq_iff_eq] at hok
      obtain ⟨hok, hsz, hd⟩ := hok
      simp only [ECode.run] at h
      split at h
      · rename_i ρ1 A1 hr
        simp only [Option.some.injEq, Prod.mk.injEq] at h
        obtain ⟨rfl, rfl, rfl⟩ := h
        refine wp_region_any hm ?_
        have I' : Inv g A { w with drawn := w.drawn + 1 } := I.world (Nat.le_refl _) (fun _ _ => rfl)
        have hany := anyD_text (S := S) (ops := ops) (es := es) es 0 (Array.replicate ops.size false) ρ A (fun j => by simp) hd hr
        rw [hsz]
        refine any_sound hok (fun e he f hf => hC f (by simp only [calleesOf, List.mem_flatMap]; exact ⟨e, he, hf⟩)) es.length _ ρ A g _ a (by rw [← hsz]; rw [← hsz] at hany; exact hany) I' E (fun g' w' a' I2 E2 hdf F => hq g' w' a' I2 E2 hdf ?_)
        exact (Fr.world (w := w) (w' := { w with drawn := w.drawn + 1 }) (Nat.le_refl _) (fun _ _ => rfl) rfl rfl rfl).trans F
      · cases h
  | seq e1 e2 ih1 ih2 =>
    intro c hok hC ρ A x ρ' A' h g w a Q I E hq
    cases c <;> simp only [okCode] at hok <;> try (cases hok; done)
    simp only [Bool.and_eq_true] at hok
    refine wp_seq ?_
    simp only [ECode.run] at h
    split at h
    · rename_i ρ1 A1 hr
      refine ih1 _ hok.1 (fun f hf => hC f (by simp [calleesOf, hf])) ρ A _ _ _ hr g w a _ I E (fun g' w' a' I' E' hd F => ?_)
      exact ih2 _ hok.2 (fun f hf => hC f (by simp [calleesOf, hf])) ρ1 A1 _ _ _ h g' w' a' Q I' E' (fun g2 w2 a2 I2 E2 hd2 F2 => hq g2 w2 a2 I2 E2 (hd2.trans hd) (F.trans F2))
    · rename_i r hne
      refine ih1 _ hok.1 (fun f hf => hC f (by simp [calleesOf, hf])) ρ A _ _ _ h g w a _ I E (fun g' w' a' I' E' hd F => ?_)
      have := hq g' w' a' I' E' hd F
      cases x with
      | normal => exact absurd h (hne _ _)
      | exit id => exact this
      | ret => exact this
  | cond y e1 e2 ih1 ih2 =>
    intro c hok hC ρ A x ρ' A' h g w a Q I E hq
    cases c <;> simp only [okCode] at hok <;> try (cases hok; done)
    simp only [Bool.and_eq_true] at hok
    simp only [ECode.run] at h
    split at h
    · rename_i t ht
      have hR := R.of_opd E hok.1.1
      rw [ht] at hR
      refine wp_cond hR.bool_inv ?_
      cases t with
      | true =>
        rw [if_pos rfl] at h ⊢
        exact ih1 _ hok.1.2 (fun f hf => hC f (by simp [calleesOf, hf])) ρ A _ _ _ h g w a Q I E hq
      | false =>
        rw [if_neg (by simp)] at h ⊢
        exact ih2 _ hok.2 (fun f hf => hC f (by simp [calleesOf, hf])) ρ A _ _ _ h g w a Q I E hq
    · cases h
  | block id e ih =>
    intro c hok hC ρ A x ρ' A' h g w a Q I E hq
    cases c <;> simp only [okCode] at hok <;> try (cases hok; done)
    simp only [Bool.and_eq_true, beq_iff_eq] at hok
    obtain ⟨rfl, hok⟩ := hok
    refine wp_block ?_
    simp only [ECode.run] at h
    split at h
    · rename_i id' ρ1 A1 hr
      refine ih _ hok (fun f hf => hC f (by simpa [calleesOf] using hf)) ρ A _ _ _ hr g w a _ I E (fun g' w' a' I' E' hd F => ?_)
      by_cases hid : id' = id
      · rw [if_pos hid] at h
        simp only [Option.some.injEq, Prod.mk.injEq] at h
        obtain ⟨rfl, rfl, rfl⟩ := h
        simp only [Ex.to, Exit.inBlock, hid, if_true]
        exact hq g' w' a' I' E' hd F
      · rw [if_neg hid] at h
        simp only [Option.some.injEq, Prod.mk.injEq] at h
        obtain ⟨rfl, rfl, rfl⟩ := h
        simp only [Ex.to, Exit.inBlock, hid, if_false]
        exact hq g' w' a' I' E' hd F
    · rename_i r hne
      refine ih _ hok (fun f hf => hC f (by simpa [calleesOf] using hf)) ρ A _ _ _ h g w a _ I E (fun g' w' a' I' E' hd F => ?_)
      have := hq g' w' a' I' E' hd F
      cases x with
      | normal => exact this
      | exit id => exact absurd h (hne _ _ _)
      | ret => exact this
  | loop e ih =>
    intro c hok hC ρ A x ρ' A' h g w a Q I E hq
    cases c <;> simp only [okCode] at hok <;> try (cases hok; done)
    rename_i c
    simp only [ECode.run] at h
    have key : ∀ (k : Nat) (ρ : List D) (A : St), rounds (e.run S n) k ρ A = some (x, ρ', A') → ∀ (g : G) (w : World) (a : Act), Inv g A w → Env g a.tmps ρ →
        (∀ g' w' a', Inv g' A' w' → Env g' a'.tmps ρ' → a'.defers = a.defers → Fr A g w A' g' w' → Q x.to a' w') → Code.rounds P c Q k a w := by
      intro k
      induction k with
      | zero => intro ρ A h; simp [rounds] at h
      | succ k ihk =>
        intro ρ A h g w a I E hq
        simp only [rounds] at h
        show c.wp P (Exit.then (Code.rounds P c Q k) Q) a w
        split at h
        · rename_i ρ1 A1 hr
          refine ih _ hok (fun f hf => hC f (by simpa [calleesOf] using hf)) ρ A _ _ _ hr g w a _ I E (fun g' w' a' I' E' hd F => ?_)
          exact ihk ρ1 A1 h g' w' a' I' E' (fun g2 w2 a2 I2 E2 hd2 F2 => hq g2 w2 a2 I2 E2 (hd2.trans hd) (F.trans F2))
        · rename_i r hne
          refine ih _ hok (fun f hf => hC f (by simpa [calleesOf] using hf)) ρ A _ _ _ h g w a _ I E (fun g' w' a' I' E' hd F => ?_)
          have := hq g' w' a' I' E' hd F
          cases x with
          | normal => exact absurd h (hne _ _)
          | exit id => exact this
          | ret => exact this
    exact wp_loop_rounds n (key n ρ A h g w a I E hq)
  | exit id =>
    intro c hok _ ρ A x ρ' A' h g w a Q I E hq
    cases c <;> simp only [okCode] at hok <;> try (cases hok; done)
    simp only [beq_iff_eq] at hok
    subst hok
    simp only [ECode.run, Option.some.injEq, Prod.mk.injEq] at h
    obtain ⟨rfl, rfl, rfl⟩ := h
    exact wp_exit (hq g w a I E rfl (.refl A g w))
  | ret =>
    intro c hok _ ρ A x ρ' A' h g w a Q I E hq
    cases c <;> simp only [okCode] at hok <;> try (cases hok; done)
    simp only [ECode.run, Option.some.injEq, Prod.mk.injEq] at h
    obtain ⟨rfl, rfl, rfl⟩ := h
    exact wp_ret (hq g w a I E rfl (.refl A g w))
  | gh gh e ih =>
    intro c hok hC ρ A x ρ' A' h g w a Q I E hq
    simp only [okCode] at hok
    simp only [ECode.run] at h
    split at h
    · rename_i ρ1 A1 hr
      obtain ⟨g1, I1, E1, F1⟩ := gh_sound hr I E
      exact ih c hok (fun f hf => hC f (by simpa [calleesOf] using hf)) ρ1 A1 x ρ' A' h g1 w a Q I1 E1 (fun g2 w2 a2 I2 E2 hd2 F2 => hq g2 w2 a2 I2 E2 hd2 (F1.trans F2))
    · cases h

end Ev

namespace Ev
open Go

variable {P : Program} {A : St} {g : G} {w w1 : World} {a : Act} {ρ : List D} {o : Oper} {S : Nat → Option Fn}

def okRes (P : Program) : List ResultVar → List ERes → Bool
  | [], [] => true
  | .tmp t :: r, .tmp t' :: r' => t == t' && okRes P r r'
  | .cell b t :: r, .cell b' wd ag :: r' => b == b' && aggIs P t ag && (!ag || sizeT P t wd) && okRes P r r'
  | _, _ => false

def okFn (P : Program) (fn : Func) (e : EFn) : Bool := e.nt == fn.ntmps && okRes P fn.results.toList e.res && (match fn.body with | some c => okCode P e.body c | none => false)

theorem run_load_res (I : Inv g A w) {t wd : Nat} {ag : Bool} {v : Value} {x d : D} (hR : R g v x) (ha : aggIs P t ag = true) (hs : ag = true → sizeT P t wd = true) (h : loadD A wd ag x = some d) :
    ∃ u, (do loadVar t (← asAddr v) : Sem Value).run P w = .ok u w ∧ R g u d := by
  have fin : ∀ {b o' : Nat} {ds : List D}, v = .pointer (some ⟨b, o', none⟩) → Reads g w b o' ds →
      (if ag then (if wd ≤ ds.length then some (D.agg (ds.take wd)) else none) else ds[0]?) = some d → ∃ u, (do loadVar t (← asAddr v) : Sem Value).run P w = .ok u w ∧ R g u d := by
    intro b o' ds hv hr h
    have hasa : ∀ {p : Addr}, (asAddr (.pointer (some p))).run P w = .ok p w := fun {p} => rfl
    cases ag with
    | true =>
      rw [if_pos rfl] at h
      split at h
      · rename_i hn
        cases h
        obtain ⟨vs, h1, h2⟩ := run_loadAgg (P := P) ha (hs rfl) (hr.take wd) (by simp; omega)
        exact ⟨_, by rw [hv]; simp only [Sem.run_bind, hasa, Result.andThen_ok, h1], h2⟩
      · cases h
    | false =>
      rw [if_neg (by simp)] at h
      obtain ⟨u, h1, h2⟩ := run_loadOne (P := P) ha hr h
      exact ⟨u, by rw [hv]; simp only [Sem.run_bind, hasa, Result.andThen_ok, h1], h2⟩
  unfold loadD at h
  split at h
  · rename_i j off
    obtain ⟨hv, hj⟩ := hR.ptr_inv
    split at h
    · rename_i f cells hb
      cases ag with
      | true =>
        refine fin hv (((reads_blk I hb).drop off).map_er) ?_
        simp only [if_true, List.length_map, List.length_drop, List.map_take] at h ⊢
        by_cases hc : off + wd ≤ cells.length
        · rw [if_pos hc] at h; rw [if_pos (by omega)]; exact h
        · rw [if_neg hc] at h; cases h
      | false =>
        refine fin hv ((reads_blk I hb).drop off) ?_
        simp only [Bool.false_eq_true, if_false, List.getElem?_drop, Nat.add_zero] at h ⊢
        exact h
    · cases h
  · rename_i ds
    obtain ⟨b, o', hv, hr⟩ := reads_ref I hR
    exact fin hv hr h
  · cases h

theorem run_results (I : Inv g A w) {t : Array Value} (E : Env g t ρ) : ∀ (rv : List ResultVar) (er : List ERes) (ds : List D), okRes P rv er = true → er.mapM (fun r => r.get ρ A) = some ds →
    ∃ vs, (rv.mapM fun | .tmp i => pure (t.getD i undef) | .cell b ty => do loadVar ty (← asAddr (t.getD b undef)) : Sem (List Value)).run P w = .ok vs w ∧ vs.length = ds.length ∧ ∀ (i : Nat) v d, vs[i]? = some v → ds[i]? = some d → R g v d
  | [], [], ds, _, h => by simp at h; subst h; exact ⟨[], by simp, rfl, fun i v d h _ => by simp at h⟩
  | .tmp i :: rv, .tmp i' :: er, ds, hok, h => by
    simp only [okRes, Bool.and_eq_true, beq_iff_eq] at hok
    obtain ⟨rfl, hok⟩ := hok
    rw [List.mapM_cons] at h
    simp only [bind, Option.bind_eq_some_iff, pure, Option.some.injEq] at h
    obtain ⟨d, hd, ds', hds, rfl⟩ := h
    obtain ⟨vs, h1, h2, h3⟩ := run_results I E rv er ds' hok hds
    simp only [ERes.get, Option.some.injEq] at hd
    refine ⟨t.getD i undef :: vs, ?_, by simp [h2], fun k v e hv he => ?_⟩
    · rw [List.mapM_cons]
      simp only [Sem.run_bind, Sem.run_pure, Result.andThen_ok, h1]
    · cases k with
      | zero => simp only [List.getElem?_cons_zero, Option.some.injEq] at hv he; subst hv; subst he; rw [← hd]; exact E.get i
      | succ k => simp only [List.getElem?_cons_succ] at hv he; exact h3 k v e hv he
  | .cell b ty :: rv, .cell b' wd ag :: er, ds, hok, h => by
    simp only [okRes, Bool.and_eq_true, beq_iff_eq] at hok
    obtain ⟨⟨⟨rfl, ha⟩, hs⟩, hok⟩ := hok
    rw [List.mapM_cons] at h
    simp only [bind, Option.bind_eq_some_iff, pure, Option.some.injEq] at h
    obtain ⟨d, hd, ds', hds, rfl⟩ := h
    obtain ⟨vs, h1, h2, h3⟩ := run_results I E rv er ds' hok hds
    simp only [ERes.get] at hd
    obtain ⟨u, hu, hRu⟩ := run_load_res (P := P) I (E.get b) ha (fun e => by subst e; simpa using hs) hd
    refine ⟨u :: vs, ?_, by simp [h2], fun k v e hv he => ?_⟩
    · rw [List.mapM_cons]
      rw [Sem.run_bind, hu]
      simp only [Sem.run_bind, Sem.run_pure, Result.andThen_ok, h1]
    · cases k with
      | zero => simp only [List.getElem?_cons_zero, Option.some.injEq] at hv he; subst hv; subst he; exact hRu
      | succ k => simp only [List.getElem?_cons_succ] at hv he; exact h3 k v e hv he
  | [], _ :: _, _, h, _ => by simp [okRes] at h
  | .tmp _ :: _, [], _, h, _ => by simp [okRes] at h
  | .cell _ _ :: _, [], _, h, _ => by simp [okRes] at h
  | .tmp _ :: _, .cell .. :: _, _, h, _ => by simp [okRes] at h
  | .cell .. :: _, .tmp _ :: _, _, h, _ => by simp [okRes] at h

theorem R.of_mem' {b off n cap wd : Nat} {ds : List D} (hc : n ≤ cap) (hl : n * wd ≤ ds.length) (hpc : ∀ c, c ∈ ds → c.pc = true) {vs : Nat → Value} (hmu : ∀ j, j < ds.length → g.mu b (off + j) = some (vs j))
    (hr : ∀ (j : Nat) d, ds[j]? = some d → R g (vs j) d) : R g (.slice (some ⟨b, off, none⟩) n cap) (.sl .any wd (chunks wd n ds)) := by
  have hlen := chunks_length wd n ds
  have := R.sl (g := g) b off cap .any wd (chunks wd n ds) vs (by rw [hlen]; exact hc) (chunks_wid hl) (fun el h c hc => hpc c (chunks_mem h hc))
    (fun j hj => hmu j (by rw [hlen] at hj; omega)) (fun j d hd => by
      rw [chunks_flatten, List.getElem?_take] at hd
      split at hd
      · exact hr j d hd
      · cases hd) trivial
  rw [hlen] at this; exact this

/-- what is left of the memory at the end -/
def G.cut (g : G) (n : Nat) : G := { mu := g.mu, nb := n, nt := 0, m := g.m, fr := fun _ => 0, rho := fun _ => none }

def erBlk : Blk → Blk
  | .mem fr cells => .mem fr (cells.map D.er)
  | b => b

theorem cut_all {B : List Blk} {A' : St} (hB : B.length ≤ A'.blks.length) (hall : (A'.blks.take B.length).all (fun b => match b with | .mem fr cells => !fr && (cells.map D.er).all D.pc | _ => false) = true) :
    (∀ j, j < B.length → ∃ cells, A'.blks[j]? = some (.mem false cells) ∧ (cells.map D.er).all D.pc = true) := by
  intro j hj
  have hj' : j < A'.blks.length := by omega
  have hm : A'.blks[j] ∈ A'.blks.take B.length := by
    rw [List.mem_iff_getElem?]
    exact ⟨j, by rw [List.getElem?_take, if_pos hj, List.getElem?_eq_getElem hj']⟩
  have := List.all_eq_true.1 hall _ hm
  cases hx : A'.blks[j] with
  | mem fr cells =>
    rw [hx] at this
    simp only [Bool.and_eq_true, Bool.not_eq_true'] at this
    refine ⟨cells, by rw [List.getElem?_eq_getElem hj', hx, this.1], this.2⟩
  | iter => rw [hx] at this; cases this
  | dead => rw [hx] at this; cases this

theorem cut_inv {B : List Blk} {A' : St} {g' : G} {w' : World} (I : Inv g' A' w') (hB : B.length ≤ A'.blks.length)
    (hall : (A'.blks.take B.length).all (fun b => match b with | .mem fr cells => !fr && (cells.map D.er).all D.pc | _ => false) = true) :
    Inv (g'.cut B.length) ⟨(A'.blks.take B.length).map erBlk, []⟩ w' ∧ BOk ((A'.blks.take B.length).map erBlk) ∧ ((A'.blks.take B.length).map erBlk).length = B.length ∧
      (∀ j, live (g'.cut B.length) ⟨(A'.blks.take B.length).map erBlk, []⟩ j → j < B.length ∧ live g' A' j) := by
  have hc := cut_all hB hall
  have hget : ∀ (j : Nat) x, ((A'.blks.take B.length).map erBlk)[j]? = some x → j < B.length ∧ ∃ cells, A'.blks[j]? = some (.mem false cells) ∧ (cells.map D.er).all D.pc = true ∧ x = .mem false (cells.map D.er) := by
    intro j x hx
    have hj : j < B.length := by have := (List.getElem?_eq_some_iff.1 hx).1; simp at this; omega
    obtain ⟨cells, h1, h2⟩ := hc j hj
    refine ⟨hj, cells, h1, h2, ?_⟩
    rw [List.getElem?_map, List.getElem?_take, if_pos hj, h1] at hx
    simp only [Option.map_some, Option.some.injEq, erBlk] at hx
    exact hx.symm
  have hlv : ∀ j, live (g'.cut B.length) ⟨(A'.blks.take B.length).map erBlk, []⟩ j → j < B.length ∧ live g' A' j := by
    intro j h
    obtain ⟨h0, h1⟩ := h
    rcases h1 with ⟨c, h1⟩ | ⟨s, p, h1⟩
    · obtain ⟨hj, cells, h2, _, _⟩ := hget j _ h1
      exact ⟨hj, h0, .inl ⟨cells, h2⟩⟩
    · obtain ⟨_, _, _, _, h⟩ := hget j _ h1; cases h
  refine ⟨⟨by simp [G.cut]; omega, rfl, I.mem, fun j x hx => ?_, fun k e h => by simp at h, fun k b en sz h => by simp [G.cut] at h, fun i j hi hj e => I.exb i j (hlv i hi).2 (hlv j hj).2 e, fun k k' b en sz en' sz' h => by simp [G.cut] at h, fun j k en sz _ h => by simp [G.cut] at h⟩, fun b hb => ?_, by simp; omega, hlv⟩
  · obtain ⟨hj, cells, h1, h2, rfl⟩ := hget j x hx
    rcases I.blk j _ h1 with ⟨q0, rfl⟩ | ⟨q0, q1, q2, q3, q4, q5⟩
    · exact .inl ⟨q0, rfl⟩
    · refine .inr ⟨q0, q1, by simp only [List.length_map]; exact q2, q3, q4, fun i d hd => ?_⟩
      rw [List.getElem?_map] at hd
      cases hx2 : cells[i]? with
      | none => rw [hx2] at hd; cases hd
      | some x =>
        rw [hx2] at hd; cases hd
        obtain ⟨v, hv, hR⟩ := q5 i x hx2
        refine ⟨v, hv, hR.er.of_pc (g := g') (g' := g'.cut B.length) (fun _ _ _ x => x) ?_⟩
        exact List.all_eq_true.1 h2 _ (List.mem_map_of_mem (List.mem_of_getElem? hx2))
  · obtain ⟨j, hj⟩ := List.mem_iff_getElem?.1 hb
    obtain ⟨_, cells, _, h2, rfl⟩ := hget j b hj
    exact ⟨_, rfl, h2⟩

theorem pv_cut {g' : G} {v : Value} {d : D} {n : Nat} (hR : R g' v d) (hp : d.pv = true) : R (g'.cut n) v d := by
  unfold D.pv at hp
  split at hp
  · rename_i ds
    obtain ⟨vs, rfl, hl, hr⟩ := hR.agg_inv
    exact .agg vs ds hl (fun i v d hv hd => (hr i v d hv hd).of_pc (g := g') (g' := g'.cut n) (fun _ _ _ x => x) (List.all_eq_true.1 hp d (List.mem_of_getElem? hd)))
  · exact hR.of_pc (g := g') (g' := g'.cut n) (fun _ _ _ x => x) hp

theorem out_ok {B : List Blk} {A' : St} {g' : G} {w' : World} (I0 : Inv g ⟨B, []⟩ w) (hO : BOk B) (I : Inv g' A' w') (F : Fr ⟨B, []⟩ g w A' g' w') (hB : B.length ≤ A'.blks.length)
    (hall : (A'.blks.take B.length).all (fun b => match b with | .mem fr cells => !fr && (cells.map D.er).all D.pc | _ => false) = true)
    {v : Value} {d r : D} (hR : R g' v d) (h : outRes A' B.length d = some r) : Res1 (g'.cut B.length) ⟨(A'.blks.take B.length).map erBlk, []⟩ w' w.heap.size v r ∧ ∀ ds, r ≠ .tup ds := by
  obtain ⟨Ic, _, _, hlv⟩ := cut_inv I hB hall
  have hc := cut_all hB hall
  -- blocks that were handed in are still there
  have hold : ∀ b, b < w.heap.size → Owns g' A' b → ∃ j, j < B.length ∧ live g' A' j ∧ (g'.m j).1 = b := by
    intro b hb hown
    rcases F.own b hb hown with ⟨j, hj, e⟩ | ⟨k, en, sz, hk, _⟩
    · have hjB : j < B.length := live_lt hj
      obtain ⟨cells, h1, _⟩ := hc j hjB
      have em : g'.m j = g.m j := F.le.m j (by rw [← I0.nb]; exact hjB)
      exact ⟨j, hjB, ⟨by rw [em]; exact hj.1, .inl ⟨cells, h1⟩⟩, by rw [em]; exact e⟩
    · rw [← I0.nt] at hk; simp at hk
  have hcutOwn : ∀ b, Owns (g'.cut B.length) ⟨(A'.blks.take B.length).map erBlk, []⟩ b → ∃ j, j < B.length ∧ live g' A' j ∧ (g'.m j).1 = b := by
    rintro b (⟨j, hj, e⟩ | ⟨k, en, sz, hk, _⟩)
    · exact ⟨j, (hlv j hj).1, (hlv j hj).2, e⟩
    · simp [G.cut] at hk
  unfold outRes at h
  split at h
  · rename_i k e wd els
    simp only [Option.some.injEq] at h
    subst h
    refine ⟨?_, fun ds h => by cases h⟩
    have hany : R (g'.cut B.length) v (.sl .any wd els) := (hR.own (o' := .any) trivial).of_pc (g := g') (g' := g'.cut B.length) (fun _ _ _ x => x) rfl
    by_cases ht : A'.toks[k]? = some e
    · rw [if_pos ht]
      refine ⟨hany, ?_⟩
      obtain ⟨_, _, hv, _, ⟨hk, hle, hown⟩, _⟩ := hR.sl_inv
      rcases hown (I.tok k e ht).symm with ⟨p, hp⟩ | ⟨b, off, cap, sz, hp, hrho, hlim⟩
      · exact .inl ⟨p, hp⟩
      · have hnew : ∀ j, live g' A' j → (g'.m j).1 ≠ b := fun j hj e => I.exm j k _ sz hj hk (by rw [e]; exact hrho)
        refine .inr ⟨b, off, cap, sz, hp, ?_, fun h => ?_, I.rho k b _ sz hk hrho, hlim⟩
        · rcases Nat.lt_or_ge b w.heap.size with hb | hb
          · obtain ⟨j, _, hj, e⟩ := hold b hb (.inr ⟨k, _, sz, hk, hrho⟩)
            exact absurd e (hnew j hj)
          · exact hb
        · obtain ⟨j, _, hj, e⟩ := hcutOwn b h
          exact hnew j hj e
    · rw [if_neg ht]
      exact ⟨hany, rfl⟩
  · rename_i j off wd n
    obtain ⟨hj, hv⟩ := hR.loc_inv
    split at h
    · rename_i cells hb
      split at h
      · rename_i hcond
        obtain ⟨h1, rfl, h3, h4, h5⟩ := hcond
        simp only [Option.some.injEq] at h
        subst h
        refine ⟨?_, fun ds h => by cases h⟩
        have hlen := chunks_length wd n cells
        rcases hv with ⟨cap, hv, hcap, hlim⟩ | ⟨p, hv, rfl, hs⟩
        · simp only [Nat.add_zero] at hv hlim
          rcases I.blk j _ hb with ⟨q0, hcz⟩ | ⟨q0, q1, q2, q3, q4, q5⟩
          · have hcw : cap * wd = 0 := by omega
            have hc0 : cap = 0 := (Nat.mul_eq_zero.1 hcw).resolve_right (by omega)
            have hn0 : n = 0 := by omega
            subst hn0; subst hc0
            exact .inl ⟨rfl, _, hv, fun x hx => by cases hx; rfl⟩
          · have hl : live g' A' j := live_of q0 hb (.inl ⟨_, rfl⟩)
            refine .inr ⟨(g'.m j).1, (g'.m j).2.1, cap, by rw [hlen]; exact hv, ?_, fun h => ?_, q1, by rw [hlen]; exact hcap, chunks_wid (by omega), fun el hel c hc => List.all_eq_true.1 h5 c (chunks_mem hel hc), q3, fun o o1 o2 => q4 o o1 (by omega), fun i d hd => ?_⟩
            · rcases Nat.lt_or_ge (g'.m j).1 w.heap.size with hb2 | hb2
              · obtain ⟨j', hj', hl', e⟩ := hold _ hb2 (.inl ⟨j, hl, rfl⟩)
                have := I.exb j' j hl' hl e
                omega
              · exact hb2
            · obtain ⟨j', hj', hl', e⟩ := hcutOwn _ h
              have := I.exb j' j hl' hl e
              omega
            · rw [flatten_chunks h3] at hd
              obtain ⟨u, hu, hRu⟩ := q5 i d hd
              exact ⟨u, hu, hRu.of_pc (g := g') (g' := g'.cut B.length) (fun _ _ _ x => x) (List.all_eq_true.1 h5 d (List.mem_of_getElem? hd))⟩
        · exact .inl ⟨by simp [chunks], p, hv, hs⟩
      · cases h
    · rename_i cells hb
      split at h
      · rename_i hl
        simp only [Option.some.injEq] at h
        subst h
        refine ⟨⟨?_, rfl⟩, fun ds h => by cases h⟩
        obtain ⟨hpc, hmu⟩ := I.blk j _ hb
        rcases hv with ⟨cap, hv, hcap, hlim⟩ | ⟨p, hv, rfl, hs⟩
        · rw [hv]
          refine R.of_mem' (vs := fun i => (g'.mu (g'.m j).1 ((g'.m j).2.1 + off + i)).getD default) hcap (by simp; omega) (fun c hcc => hpc c (List.mem_of_mem_drop hcc)) (fun i hi => ?_) (fun i d hd => ?_)
          · simp only [List.length_drop] at hi
            obtain ⟨u, hu, _⟩ := hmu (off + i) _ (List.getElem?_eq_getElem (by omega))
            show g'.mu _ _ = _
            rw [Nat.add_assoc, hu]; rfl
          · rw [List.getElem?_drop] at hd
            obtain ⟨u, hu, hRu⟩ := hmu (off + i) d hd
            rw [Nat.add_assoc, hu]
            exact hRu.of_pc (g := g') (g' := g'.cut B.length) (fun _ _ _ x => x) (hpc d (List.mem_of_getElem? hd))
        · rw [hv]; exact .sl0 p _ _ 0 (fun _ => rfl) hs trivial
      · cases h
    · cases h
  · split at h
    · rename_i hp
      simp only [Option.some.injEq] at h
      subst h
      have h1 := pv_cut (n := B.length) hR hp
      refine ⟨?_, fun ds h => by subst h; simp [D.pv, D.pc] at hp⟩
      unfold Res1
      split
      · simp [D.pv, D.pc] at hp
      · simp [D.pv, D.pc] at hp
      · exact ⟨h1, hp⟩
    · cases h

theorem mapM_bind_get {α β γ : Type} {f : α → Option β} {h : β → Option γ} : ∀ {l : List α} {r : List γ}, l.mapM (fun x => (f x).bind h) = some r → ∃ m, l.mapM f = some m ∧ m.mapM h = some r
  | [], r, e => by simp at e; subst e; exact ⟨[], by simp, by simp⟩
  | a :: l, r, e => by
    rw [List.mapM_cons] at e
    simp only [bind, Option.bind_eq_some_iff, pure, Option.some.injEq] at e
    obtain ⟨y, ⟨x, hx, hy⟩, r', hr', rfl⟩ := e
    obtain ⟨m, hm, hm'⟩ := mapM_bind_get hr'
    exact ⟨x :: m, by rw [List.mapM_cons, hx, hm]; rfl, by rw [List.mapM_cons, hy, hm']; rfl⟩

/-- a call of a function whose plain form comes to an end -/
theorem fn_sound (hm : P.follows .mixedOrders = true) {f : Nat} {fn : Func} (hf : P.funcs[f]? = some fn) {e : EFn} (hok : okFn P fn e = true) (hC : ∀ f', f' ∈ calleesOf e.body → Con P S f')
    {n : Nat} {args : List D} {B : List Blk} {r : D} {B' : List Blk} (hrun : e.run S n args B = some (r, B')) (g : G) (w : World) (vs : Array Value) (I : Inv g ⟨B, []⟩ w) (hO : BOk B) (hsz : vs.size = args.length)
    (hRv : ∀ (i : Nat) v d, vs[i]? = some v → args[i]? = some d → R g v d) :
    Calls P f vs w fun e w' => ∃ v g', e = .returned v ∧ Inv g' ⟨B', []⟩ w' ∧ BOk B' ∧ B'.length = B.length ∧ Fr ⟨B, []⟩ g w ⟨B', []⟩ g' w' ∧ Res g' ⟨B', []⟩ w' w.heap.size v r := by
  simp only [okFn, Bool.and_eq_true, beq_iff_eq] at hok
  obtain ⟨⟨hnt, hres⟩, hbody⟩ := hok
  split at hbody
  · rename_i c hc
    refine calls_of_wp hf hc ?_
    unfold EFn.run at hrun
    have hE : Env g (vs ++ Array.replicate (fn.ntmps - vs.size) undef) (args ++ List.replicate (e.nt - args.length) .undef) := by
      refine ⟨by simp [hsz, hnt], fun i v d hv hd => ?_⟩
      by_cases hi : i < args.length
      · rw [Array.getElem?_append_left (by omega)] at hv
        rw [List.getElem?_append_left hi] at hd
        exact hRv i v d hv hd
      · rw [Array.getElem?_append_right (by omega)] at hv
        rw [List.getElem?_append_right (by omega)] at hd
        have h1 : v = undef := by
          have := Array.mem_of_getElem? hv
          simpa using (Array.mem_replicate.1 this).2
        have h2 : d = .undef := (List.mem_replicate.1 (List.mem_of_getElem? hd)).2
        rw [h1, h2]; exact .undef g
    split at hrun
    · cases hrun
    · cases hrun
    · rename_i x ρ' A' hne hx
      split at hrun
      · cases hrun
      · rename_i rs hrs
        simp only at hrun
        split at hrun
        · rename_i hcond
          obtain ⟨hcount, hall⟩ := hcond
          simp only [Option.some.injEq, Prod.mk.injEq] at hrun
          obtain ⟨hrr, hBB⟩ := hrun
          refine code_sound hm n e.body c hbody hC _ _ x ρ' A' hx g w _ _ I hE (fun g' w' a' I' E' hd F' => ?_)
          have hxx : x = .normal ∨ x = .ret := by
            cases x with
            | normal => exact .inl rfl
            | ret => exact .inr rfl
            | exit id => exact (hne id rfl).elim
          have hBl : B.length ≤ A'.blks.length := by have := F'.le.nb; rw [← I.nb, ← I'.nb] at this; exact this
          obtain ⟨Ic, hOc, hlc, hlv⟩ := cut_inv I' hBl hall
          have hBe : B' = (A'.blks.take B.length).map erBlk := by rw [← hBB]; apply List.map_congr_left; intro b _; cases b <;> rfl
          obtain ⟨ds, hds, hout⟩ := mapM_bind_get hrs
          obtain ⟨us, hus, hul, hur⟩ := run_results (P := P) I' E' fn.results.toList e.res ds hres hds
          obtain ⟨hrl, hrg⟩ := mapM_get hout
          have hone : ∀ (i : Nat) v r, us[i]? = some v → rs[i]? = some r → Res1 (g'.cut B.length) ⟨(A'.blks.take B.length).map erBlk, []⟩ w' w.heap.size v r ∧ ∀ ds, r ≠ .tup ds := by
            intro i v r hv hr
            have hi : i < ds.length := by rw [← hrl]; exact (List.getElem?_eq_some_iff.1 hr).1
            obtain ⟨y, hy, hy2⟩ := hrg i _ (List.getElem?_eq_getElem hi)
            rw [hr] at hy2; cases hy2
            exact out_ok I hO I' F' hBl hall (hur i v _ hv (List.getElem?_eq_getElem hi)) hy
          have hFr : Fr ⟨B, []⟩ g w ⟨(A'.blks.take B.length).map erBlk, []⟩ (g'.cut B.length) w' := by
            refine ⟨⟨F'.le.mu, by simp only [G.cut]; rw [← I.nb]; exact Nat.le_refl _, by rw [← I.nt]; exact Nat.zero_le _, fun j hj => F'.le.m j hj, fun k hk => by rw [← I.nt] at hk; simp at hk⟩, F'.sz, F'.old, F'.omu, fun b hb hown => ?_, F'.os, F'.tape, F'.out⟩
            rcases hown with ⟨j, hj, e⟩ | ⟨k, en, sz, hk, _⟩
            · exact F'.own b hb (.inl ⟨j, (hlv j hj).2, e⟩)
            · simp [G.cut] at hk
          have hresrun : ∃ v, (results fn a'.tmps).run P w' = .ok v w' ∧ Res (g'.cut B.length) ⟨(A'.blks.take B.length).map erBlk, []⟩ w' w.heap.size v r := by
            have hm2 : (fn.results.mapM fun | .tmp t => pure (a'.tmps.getD t undef) | .cell b t => do loadVar t (← asAddr (a'.tmps.getD b undef)) : Sem (Array Value)).run P w' = .ok us.toArray w' := by
              rw [Array.mapM_eq_mapM_toList]
              simp only [Sem.run_map, hus, Result.andThen_ok]
            refine ⟨if h : us.toArray.size = 1 then us.toArray[0] else .tuple us.toArray, ?_, ?_⟩
            · unfold results
              rw [Sem.run_bind]
              refine Eq.trans (congrArg (fun z => Result.andThen z _) hm2) ?_
              rfl
            · have hlen : us.length = rs.length := by rw [hul, hrl]
              by_cases h1 : us.length = 1
              · have hsz1 : us.toArray.size = 1 := by simpa using h1
                rw [dif_pos hsz1]
                match rs, hrr, hlen, hone, hcount with
                | [r1], hrr, _, hone, _ =>
                  simp only at hrr
                  subst hrr
                  obtain ⟨a1, a2⟩ := hone 0 us.toArray[0] r1 (by simp) rfl
                  cases r1 <;> first | exact a1 | exact absurd rfl (a2 _)
                | [], _, hlen, _, _ => rw [h1] at hlen; simp at hlen
                | _ :: _ :: _, _, hlen, _, _ => rw [h1] at hlen; simp at hlen
              · rw [dif_neg (by simpa using h1)]
                have hr2 : r = .tup rs := by
                  rw [← hrr]
                  match rs, hlen with
                  | [], _ => rfl
                  | [_], hlen => exact absurd (by simpa using hlen) h1
                  | _ :: _ :: _, _ => rfl
                subst hr2
                exact ⟨⟨us.toArray, rfl, by simpa using hlen, fun i v d hv hd => (hone i v d (by simpa using hv) hd).1⟩, hcount⟩
          obtain ⟨v, hv, hres2⟩ := hresrun
          have hpost : a'.defers = [] ∧ ∃ v, (results fn a'.tmps).run P w' = .ok v w' ∧ (∃ v2 g2, Ending.returned v = .returned v2 ∧ Inv g2 ⟨B', []⟩ w' ∧ BOk B' ∧ B'.length = B.length ∧ Fr ⟨B, []⟩ g w ⟨B', []⟩ g2 w' ∧ Res g2 ⟨B', []⟩ w' w.heap.size v2 r) :=
            ⟨hd, v, hv, v, g'.cut B.length, rfl, by rw [hBe]; exact Ic, by rw [hBe]; exact hOc, by rw [hBe]; exact hlc, by rw [hBe]; exact hFr, by rw [hBe]; exact hres2⟩
          rcases hxx with rfl | rfl
          · exact hpost
          · exact hpost
        · cases hrun
  · cases hbody

/-- a function whose plain form comes to what S says -/
theorem con_of (hm : P.follows .mixedOrders = true) {f : Nat} {fn : Func} (hf : P.funcs[f]? = some fn) {e : EFn} (hok : okFn P fn e = true) (hC : ∀ f', f' ∈ calleesOf e.body → Con P S f')
    (h : ∀ F, S f = some F → ∀ args B r B', F args B = some (r, B') → ∃ n, e.run S n args B = some (r, B')) : Con P S f := by
  intro F hF args B r B' hr g w vs I hO hsz hRv
  obtain ⟨n, hrun⟩ := h F hF args B r B' hr
  exact fn_sound hm hf hok hC hrun g w vs I hO hsz hRv

end Ev

namespace Ev
open Go

/-- the kinds of cells that arguments are made of -/
inductive CT where
  | int (k : IntKind)
  | bool
  | str
  | sl (bs : Nat) (el : List CT)

def layCts : Nat → List (Nat × List CT) → Option (List CT)
  | _, [] => some []
  | o, (off, l) :: r => if off = o then (layCts (o + l.length) r).map (l ++ ·) else none

def ctsOf (P : Program) : Nat → TypeId → Option (List CT)
  | 0, _ => none
  | n + 1, t =>
    match P.underlying t with
    | some .bool => some [.bool]
    | some (.int k) => some [.int k]
    | some .string => some [.str]
    | some (.slice e) => (ctsOf P n e).bind fun l => if l.length = P.cellsOf e ∧ 0 < l.length then some [.sl (P.bytesOf e) l] else none
    | some (.struct fs) => (fs.toList.mapM fun f => (ctsOf P n f.type).bind fun l => if l.length = P.cellsOf f.type then some (f.offset, l) else none).bind fun ls =>
        (layCts 0 ls).bind fun l => if l.length = P.cellsOf t then some l else none
    | some (.array m e) => (ctsOf P n e).bind fun l => if l.length = P.cellsOf e ∧ m * l.length = P.cellsOf t then some (List.replicate m l).flatten else none
    | _ => none

/-- a plain value of such a kind -/
inductive Ok : CT → D → Prop
  | int (k : IntKind) (n : Int) (h : (Lit.int k n).wf = true) : Ok (.int k) (.int k n)
  | bool (b : Bool) : Ok .bool (.bool b)
  | str (s : List UInt8) (h : s.length ≤ reachBytes) : Ok .str (.str s)
  | nil (bs : Nat) (el : List CT) : Ok (.sl bs el) (.sl .nilk el.length [])
  | sl (bs : Nat) (el : List CT) (els : List (List D)) (hb : els.length * bs ≤ reachBytes) (hl : ∀ e, e ∈ els → e.length = el.length)
      (h : ∀ e, e ∈ els → ∀ (i : Nat) c d, el[i]? = some c → e[i]? = some d → Ok c d) : Ok (.sl bs el) (.sl .any el.length els)

def Oks (l : List CT) (ds : List D) : Prop := ds.length = l.length ∧ ∀ (i : Nat) c d, l[i]? = some c → ds[i]? = some d → Ok c d

theorem Ok.pc {c : CT} {d : D} (h : Ok c d) : d.pc = true := by cases h <;> rfl

theorem Oks.pc {l : List CT} {ds : List D} (h : Oks l ds) : ∀ c, c ∈ ds → c.pc = true := by
  intro c hc
  obtain ⟨i, hi⟩ := List.mem_iff_getElem?.1 hc
  have hl : i < l.length := by rw [← h.1]; exact (List.getElem?_eq_some_iff.1 hi).1
  exact (h.2 i _ c (List.getElem?_eq_getElem hl) hi).pc

theorem Oks.append {l l' : List CT} {ds ds' : List D} (h : Oks l ds) (h' : Oks l' ds') : Oks (l ++ l') (ds ++ ds') := by
  refine ⟨by simp [h.1, h'.1], fun i c d hc hd => ?_⟩
  by_cases hi : i < ds.length
  · rw [List.getElem?_append_left (by rw [← h.1]; exact hi)] at hc
    rw [List.getElem?_append_left hi] at hd
    exact h.2 i c d hc hd
  · rw [List.getElem?_append_right (by rw [← h.1]; omega)] at hc
    rw [List.getElem?_append_right (by omega), h.1] at hd
    exact h'.2 _ c d hc hd

/-- what these cells are -/
def Cells (g : G) (cs : List Value) (l : List CT) (ds : List D) : Prop :=
  ds.length = cs.length ∧ (∀ (i : Nat) v d, cs[i]? = some v → ds[i]? = some d → R g v d) ∧ Oks l ds

theorem Cells.append {g : G} {cs cs' : List Value} {l l' : List CT} {ds ds' : List D} (h : Cells g cs l ds) (h' : Cells g cs' l' ds') : Cells g (cs ++ cs') (l ++ l') (ds ++ ds') := by
  refine ⟨by simp [h.1, h'.1], fun i v d hv hd => ?_, h.2.2.append h'.2.2⟩
  by_cases hi : i < ds.length
  · rw [List.getElem?_append_left (by rw [← h.1]; exact hi)] at hv
    rw [List.getElem?_append_left hi] at hd
    exact h.2.1 i v d hv hd
  · rw [List.getElem?_append_right (by rw [← h.1]; omega)] at hv
    rw [List.getElem?_append_right (by omega), h.1] at hd
    exact h'.2.1 _ v d hv hd

section
variable {H : Type} {enc : TypeId × Value → H} {P : Program} {W : World} {g : G}

theorem cells_parts (e : Nat) (l : List CT) (cs : List Value) : ∀ (m : Nat) (o : Nat), o + m * e ≤ cs.length → (∀ i, i < m → ∃ ds, Cells g ((cs.drop (o + i * e)).take e) l ds) → ∃ ds, Cells g ((cs.drop o).take (m * e)) (List.replicate m l).flatten ds
  | 0, o, _, _ => ⟨[], by simp, (fun i v d h => by simp at h), by simp [Oks]⟩
  | m + 1, o, ho, h => by
    have hme : (m + 1) * e = e + m * e := by rw [Nat.add_mul]; omega
    obtain ⟨ds0, h0⟩ := h 0 (by omega)
    simp only [Nat.zero_mul, Nat.add_zero] at h0
    obtain ⟨ds1, h1⟩ := cells_parts e l cs m (o + e) (by omega) (fun i hi => by
      have := h (i + 1) (by omega)
      rw [Nat.add_mul, Nat.one_mul, show o + (i * e + e) = o + e + i * e by omega] at this
      exact this)
    refine ⟨ds0 ++ ds1, ?_⟩
    have := h0.append h1
    rw [List.replicate_succ, List.flatten_cons, hme]
    have e1 : (cs.drop o).take (e + m * e) = (cs.drop o).take e ++ (cs.drop (o + e)).take (m * e) := by
      rw [List.take_add, List.drop_drop]
    rw [e1]; exact this

theorem weightsAll_mem {e : TypeId} : ∀ {l : List (DataW H)} {d : DataW H}, d ∈ l → ∀ n ∈ d.weights P e, n ∈ DataW.weightsAll P e l
  | d0 :: l, d, h, n, hn => by
    simp only [DataW.weightsAll, List.mem_append]
    rcases List.mem_cons.1 h with rfl | h
    · exact .inl hn
    · exact .inr (weightsAll_mem h n hn)

theorem lay_cells (cs : List Value) (el : List (Nat × List CT)) : ∀ (o : Nat) (l : List CT), layCts o el = some l → o + l.length = cs.length →
    (∀ x, x ∈ el → ∃ ds, Cells g ((cs.drop x.1).take x.2.length) x.2 ds) → ∃ ds, Cells g (cs.drop o) l ds := by
  induction el with
  | nil =>
    intro o l h hl _
    simp only [layCts, Option.some.injEq] at h
    subst h
    refine ⟨[], by simp at hl ⊢; omega, (fun i v d h h' => by simp at h'), by simp [Oks]⟩
  | cons x el ih =>
    obtain ⟨off, l0⟩ := x
    intro o l h hl hx
    simp only [layCts] at h
    split at h
    · rename_i ho
      subst ho
      simp only [Option.map_eq_some_iff] at h
      obtain ⟨l1, h1, rfl⟩ := h
      obtain ⟨ds0, c0⟩ := hx (off, l0) (by simp)
      obtain ⟨ds1, c1⟩ := ih (off + l0.length) l1 h1 (by simp at hl; omega) (fun x hx' => hx x (by simp [hx']))
      refine ⟨ds0 ++ ds1, ?_⟩
      have := c0.append c1
      simp only at this
      rw [← List.drop_drop, List.take_append_drop] at this
      exact this
    · cases h

theorem mapM_getO {α β : Type} {f : α → Option β} {l : List α} {r : List β} (h : l.mapM f = some r) : r.length = l.length ∧ ∀ (i : Nat) x, l[i]? = some x → ∃ y, f x = some y ∧ r[i]? = some y := mapM_get h

theorem cells_of {a : Addr} : ∀ {n : Nat} {cs : List Value}, W.cells? 0 a n = some cs → cs.length = n ∧ ∀ i, i < n → ∃ v, cs[i]? = some v ∧ W.cell? (a.add i) = some v := by
  intro n cs h
  unfold World.cells? at h
  rw [if_pos (Nat.zero_le _)] at h
  obtain ⟨h1, h2⟩ := mapM_get h
  refine ⟨by simpa using h1, fun i hi => ?_⟩
  obtain ⟨y, hy, hr⟩ := h2 i i (by simp [hi])
  exact ⟨y, hr, hy⟩

theorem read_ok (hmu : ∀ b o, g.mu b o = cellAt W b o) : ∀ (n : Nat) (fuel : Nat) (t : TypeId) (cs : List Value) (x : DataW H × List MemPlace) (l : List CT), ctsOf P n t = some l →
    DataW.trod enc P W 0 (fun _ => true) true fuel t cs = some x → (∀ m ∈ x.1.weights P t, m ≤ reachBytes) → ∃ ds, Cells g cs l ds := by
  have one : ∀ {v : Value} {c : CT} {d : D}, R g v d → Ok c d → ∃ ds, Cells g [v] [c] ds := by
    intro v c d hR hk
    refine ⟨[d], rfl, fun i v' d' hv hd => ?_, rfl, fun i c' d' hc hd => ?_⟩
    · cases i with
      | zero => simp at hv hd; subst hv; subst hd; exact hR
      | succ i => simp at hv
    · cases i with
      | zero => simp at hc hd; subst hc; subst hd; exact hk
      | succ i => simp at hc
  intro n
  induction n with
  | zero => intro fuel t cs x l h; cases h
  | succ n ih =>
    intro fuel t cs x l h ht hw
    unfold ctsOf at h
    split at h
    · rename_i hu
      cases h
      cases fuel with
      | zero => simp [DataW.trod] at ht
      | succ m =>
        unfold DataW.trod at ht
        rw [hu] at ht
        split at ht <;> simp_all
        exact one (.bool _) (.bool _)
    · rename_i k hu
      cases h
      cases fuel with
      | zero => simp [DataW.trod] at ht
      | succ m =>
        unfold DataW.trod at ht
        rw [hu] at ht
        split at ht <;> simp_all
        exact one (.int _ _) (.int _ _ ht.1.2)
    · rename_i hu
      cases h
      cases fuel with
      | zero => simp [DataW.trod] at ht
      | succ m =>
        unfold DataW.trod at ht
        rw [hu] at ht
        split at ht <;> simp_all
        rename_i s
        obtain ⟨_, rfl⟩ := ht
        have hs : s = ⟨s.data.toList.toArray⟩ := by simp
        refine one (d := .str s.data.toList) ?_ (.str _ (by simpa [DataW.weights] using hw))
        have := R.str (g := g) s.data.toList
        rw [← hs] at this
        exact this
    · rename_i e hu
      simp only [Option.bind_eq_some_iff] at h
      obtain ⟨l0, h0, h⟩ := h
      split at h
      · rename_i hl0
        cases h
        rcases DataW.trod_slice hu ht with ⟨rfl, rfl⟩ | ⟨a, len, cap, elems, rest, m, _, rfl, rfl, _, hlc, hcm, hel, hget, hsp, _⟩
        · exact one (d := .sl .nilk l0.length []) (.sl0 none .nilk _ 0 (fun _ => rfl) (fun _ _ => rfl) rfl) (.nil _ _)
        · simp only [DataW.weights, hu, List.mem_cons, List.mem_append] at hw
          have hbs : len * P.bytesOf e ≤ reachBytes := by
            have := hw _ (.inl rfl)
            simp only [List.length_map, hel] at this
            exact Nat.le_trans (Nat.mul_le_mul_right _ (Nat.le_add_right _ _)) this
          have hE : ∀ i, i < len → ∃ cs ds, W.cells? 0 (a.add (i * P.cellsOf e)) (P.cellsOf e) = some cs ∧ Cells g cs l0 ds := by
            intro i hi
            have h1 := hget i hi
            have hi' : i < elems.length := by omega
            rw [List.getElem?_eq_getElem hi'] at h1
            simp only [Option.bind_eq_some_iff] at h1
            obtain ⟨cs, hcs, h1⟩ := h1
            obtain ⟨ds, hds⟩ := ih _ e cs _ l0 h0 h1 (fun m hm => hw m (.inr (.inl (weightsAll_mem (List.mem_map_of_mem (List.getElem_mem hi')) m hm))))
            exact ⟨cs, ds, hcs, hds⟩
          -- the elements
          have hC : ∀ i, ∃ ds, i < len → ∃ cs, W.cells? 0 (a.add (i * P.cellsOf e)) (P.cellsOf e) = some cs ∧ Cells g cs l0 ds := by
            intro i
            by_cases hi : i < len
            · obtain ⟨cs, ds, h1, h2⟩ := hE i hi
              exact ⟨ds, fun _ => ⟨cs, h1, h2⟩⟩
            · exact ⟨[], fun h => absurd h hi⟩
          obtain ⟨E, hEE⟩ := Classical.axiomOfChoice hC
          have hmem : ∀ el, el ∈ (List.range len).map E → ∃ i, i < len ∧ el = E i := by
            intro el h
            obtain ⟨i, hi, rfl⟩ := List.mem_map.1 h
            exact ⟨i, List.mem_range.1 hi, rfl⟩
          have hwid : ∀ el, el ∈ (List.range len).map E → el.length = l0.length := by
            intro el h
            obtain ⟨i, hi, rfl⟩ := hmem el h
            obtain ⟨cs, _, h2⟩ := hEE i hi
            exact h2.2.2.1
          have hlen : ((List.range len).map E).length = len := by simp
          refine one (d := .sl .any l0.length ((List.range len).map E)) ?_ (.sl _ _ _ (by rw [hlen]; exact hbs) hwid (fun el h i c d hc hd => ?_))
          · by_cases h0 : len = 0
            · subst h0
              exact .sl0 (some a) .any _ cap (fun h => by cases h) (fun _ _ => rfl) trivial
            · -- the address is a plain one
              obtain ⟨cs, hcs, hds⟩ := hEE 0 (by omega)
              obtain ⟨hl1, hc1⟩ := cells_of hcs
              obtain ⟨v0, _, hv0⟩ := hc1 0 (by omega)
              obtain ⟨b, off, spot⟩ := a
              have hspot : spot = none := by simpa [Addr.add] using World.cell?_spot hv0
              subst hspot
              have key : ∀ j, j < len * l0.length → ∃ v, g.mu b (off + j) = some v ∧ ∀ d, ((List.range len).map E).flatten[j]? = some d → R g v d := by
                intro j hj
                have hp : 0 < l0.length := hl0.2
                have hq : j / l0.length < len := by rw [Nat.div_lt_iff_lt_mul hp]; exact hj
                have hr : j % l0.length < l0.length := Nat.mod_lt _ hp
                obtain ⟨cs, hcs, hds⟩ := hEE (j / l0.length) hq
                obtain ⟨hl1, hc1⟩ := cells_of hcs
                obtain ⟨v, hv, hcv⟩ := hc1 (j % l0.length) (by omega)
                refine ⟨v, ?_, fun d hd => ?_⟩
                · rw [hmu]
                  have e1 : off + j = off + j / l0.length * P.cellsOf e + j % l0.length := by
                    rw [← hl0.1, Nat.mul_comm, Nat.add_assoc, Nat.div_add_mod]
                  show W.cell? ⟨b, off + j, none⟩ = _
                  rw [e1]
                  rw [Go.WideShapes.add_plain, Go.WideShapes.add_plain] at hcv
                  exact hcv
                · have e2 := flatten_take_drop hwid (i := j / l0.length) (el := E (j / l0.length)) (by simp [List.getElem?_range hq]) (j % l0.length) hr
                  rw [show j / l0.length * l0.length + j % l0.length = j by rw [Nat.mul_comm]; exact Nat.div_add_mod _ _] at e2
                  rw [e2] at hd
                  exact hds.2.1 _ v d hv hd
              have hR := R.sl (g := g) b off cap .any l0.length ((List.range len).map E) (fun j => (g.mu b (off + j)).getD default) (by rw [hlen]; exact hlc) hwid
                (fun el h c hc => by
                  obtain ⟨i, hi, rfl⟩ := hmem el h
                  obtain ⟨cs, _, h2⟩ := hEE i hi
                  exact h2.2.2.pc c hc)
                (fun j hj => by
                  rw [hlen] at hj
                  obtain ⟨v, hv, _⟩ := key j hj
                  rw [hv]; rfl)
                (fun j d hd => by
                  have hj : j < len * l0.length := by
                    have := (List.getElem?_eq_some_iff.1 hd).1
                    rw [flatten_length hwid, hlen] at this; exact this
                  obtain ⟨v, hv, hR⟩ := key j hj
                  rw [hv]; exact hR d hd) trivial
              rw [hlen] at hR
              exact hR
          · obtain ⟨i', hi', rfl⟩ := hmem el h
            obtain ⟨cs, _, h2⟩ := hEE i' hi'
            exact h2.2.2.2 i c d hc hd
      · cases h
    · rename_i fs hu
      simp only [Option.bind_eq_some_iff] at h
      obtain ⟨ls, hls, l', hlay, h⟩ := h
      split at h
      · rename_i hll
        cases h
        obtain ⟨xs, m, _, rfl, hcl, hxl, hget⟩ := DataW.trod_struct hu ht
        obtain ⟨hlen, hl2⟩ := mapM_get hls
        have hw' : ∀ (i : Nat) f y, fs[i]? = some f → xs[i]? = some y → ∀ m ∈ y.1.weights P f.type, m ≤ reachBytes := by
          intro i f y hf hy m hm
          refine hw m ?_
          simp only [DataW.weights, hu]
          exact DataW.weights_mem_each (j := i) (by simp [hf]) (by simp [hy]) m hm
        obtain ⟨ds, hds⟩ := lay_cells (g := g) cs ls 0 _ hlay (by omega) (fun z hz => by
          obtain ⟨i, hi⟩ := List.mem_iff_getElem?.1 hz
          have hi' : i < fs.toList.length := by rw [← hlen]; exact (List.getElem?_eq_some_iff.1 hi).1
          obtain ⟨y, hy, hr⟩ := hl2 i _ (List.getElem?_eq_getElem hi')
          rw [hi] at hr; cases hr
          simp only [Option.bind_eq_some_iff] at hy
          obtain ⟨lf, hlf, hy⟩ := hy
          split at hy
          · rename_i hfl
            cases hy
            have hf : fs[i]? = some fs.toList[i] := by simp at hi' ⊢
            have hx : i < xs.length := by rw [hxl]; simpa using hi'
            have h1 := hget i _ hf
            rw [List.getElem?_eq_getElem hx] at h1
            rw [← hfl] at h1
            exact ih _ _ _ _ lf hlf h1 (hw' i _ _ hf (List.getElem?_eq_getElem hx))
          · cases hy)
        exact ⟨ds, by simpa using hds⟩
      · cases h
    · rename_i m e hu
      simp only [Option.bind_eq_some_iff] at h
      obtain ⟨l0, h0, h⟩ := h
      split at h
      · rename_i hl0
        cases h
        obtain ⟨xs, k, _, rfl, hcl, hxl, hget⟩ := DataW.trod_array hu ht
        obtain ⟨ds, hds⟩ := cells_parts (g := g) (P.cellsOf e) l0 cs m 0 (by rw [hcl, ← hl0.2, hl0.1]; omega) (fun i hi => by
          have hx : i < xs.length := by omega
          have h1 := hget i hi
          rw [List.getElem?_eq_getElem hx] at h1
          simp only [Nat.zero_add]
          refine ih _ e _ _ l0 h0 h1 (fun m hm => hw m ?_)
          simp only [DataW.weights, hu]
          exact weightsAll_mem (List.mem_map_of_mem (List.getElem_mem hx)) m hm)
        refine ⟨ds, ?_⟩
        have e1 : cs = (cs.drop 0).take (m * P.cellsOf e) := by
          rw [List.drop_zero, List.take_of_length_le]; rw [hcl, ← hl0.2, hl0.1]; exact Nat.le_refl _
        rw [e1]; exact hds
      · cases h
    · cases h
end

end Ev

namespace Ev
open Go

inductive AK where
  | one (c : CT)
  | agg (l : List CT)

def argK (P : Program) (t : TypeId) : Option AK :=
  match P.underlying t with
  | some (.struct _) | some (.array _ _) => (ctsOf P 20 t).map .agg
  | _ => match ctsOf P 20 t with
    | some [c] => some (.one c)
    | _ => none

def ArgOk : AK → D → Prop
  | .one c, d => Ok c d
  | .agg l, d => ∃ ds, d = .agg ds ∧ Oks l ds

def g0 (W : World) : G := { mu := fun b o => cellAt W b o, nb := 0, nt := 0, m := fun _ => (0, 0, 0), fr := fun _ => 0, rho := fun _ => none }

theorem inv0 (W : World) : Inv (g0 W) ⟨[], []⟩ W := by
  refine ⟨rfl, rfl, fun _ _ _ h => h, fun j x h => by simp at h, fun k e h => by simp at h, fun k _ _ _ h => absurd h (Nat.not_lt_zero k), fun i j hi => absurd (live_lt hi) (by simp), fun k _ _ _ _ _ _ h => absurd h (Nat.not_lt_zero k), fun j k _ _ hj => absurd (live_lt hj) (by simp)⟩

theorem own0 (W : World) (b : Nat) : ¬ Owns (g0 W) ⟨[], []⟩ b := by
  rintro (⟨j, hj, _⟩ | ⟨k, _, _, hk, _⟩)
  · exact absurd (live_lt hj) (by simp)
  · exact absurd hk (Nat.not_lt_zero k)

section
variable {H : Type} {enc : TypeId × Value → H} {P : Program} {W : World} {b0 : Nat}

theorem read_arg {t : TypeId} {v : Value} {d : DataW H} {ps : List MemPlace} {k : AK} (hk : argK P t = some k) (hv : Value.okWide P W .any b0 t v) (hd : DataW.Trod enc P W 0 (fun _ => true) true t v d ps)
    (hw : ∀ m ∈ d.weights P t, m ≤ reachBytes) : ∃ x, R (g0 W) v x ∧ ArgOk k x := by
  obtain ⟨fuel, hd⟩ := hd
  unfold argK at hk
  have agg : (∃ cs, v = .agg cs) → (ctsOf P 20 t).map AK.agg = some k → ∃ x, R (g0 W) v x ∧ ArgOk k x := by
    rintro ⟨cs, rfl⟩ h
    simp only [Option.map_eq_some_iff] at h
    obtain ⟨l, hl, rfl⟩ := h
    obtain ⟨ds, h1, h2, h3⟩ := read_ok (g := g0 W) (fun _ _ => rfl) 20 fuel t _ _ l hl hd hw
    simp only [Value.cells] at h1 h2
    exact ⟨.agg ds, .agg cs ds (by simpa using h1.symm) (fun i v d hv hd => h2 i v d (by simpa using hv) hd), ds, rfl, h3⟩
  have one : (∀ cs, v ≠ .agg cs) → (match ctsOf P 20 t with | some [c] => some (AK.one c) | _ => none) = some k → ∃ x, R (g0 W) v x ∧ ArgOk k x := by
    intro hne h
    split at h
    · rename_i c hc
      cases h
      obtain ⟨ds, h1, h2, h3⟩ := read_ok (g := g0 W) (fun _ _ => rfl) 20 fuel t _ _ _ hc hd hw
      have hcs : v.cells.toList = [v] := by
        cases v <;> first | rfl | exact absurd rfl (hne _)
      rw [hcs] at h1 h2
      match ds, h1, h2, h3 with
      | [x], _, h2, h3 => exact ⟨x, h2 0 v x rfl rfl, h3.2 0 c x rfl rfl⟩
    · cases h
  split at hk
  · rename_i fs hu
    refine agg ?_ hk
    simp only [Value.okWide, hu] at hv
    obtain ⟨cs, h, _⟩ := hv
    exact ⟨cs, h⟩
  · rename_i n e hu
    refine agg ?_ hk
    simp only [Value.okWide, hu] at hv
    obtain ⟨cs, h, _⟩ := hv
    exact ⟨cs, h⟩
  · rename_i hn1 hn2
    refine one (fun cs hc => ?_) hk
    subst hc
    cases hu : P.underlying t with
    | none => simp [Value.okWide, hu, Cell.okWide, Cell.ok] at hv
    | some y =>
      cases y <;> first | exact absurd hu (hn1 _) | exact absurd hu (hn2 _ _) | (simp [Value.okWide, hu, Cell.okWide, Cell.ok] at hv)

theorem read_args : ∀ {ts : List TypeId} {vs : List Value} {ds : List (DataW H)} {ps : List MemPlace} {ks : List AK}, ts.mapM (argK P) = some ks → DataW.TrodAll enc P W 0 (fun _ => true) true ts vs ds ps →
    (∀ (j : Nat) t v, ts[j]? = some t → vs[j]? = some v → Value.okWide P W .any b0 t v) → (∀ n ∈ DataW.weightsEach P ts ds, n ≤ reachBytes) →
    ∃ xs : List D, xs.length = vs.length ∧ xs.length = ks.length ∧ (∀ (i : Nat) v d, vs[i]? = some v → xs[i]? = some d → R (g0 W) v d) ∧ (∀ (i : Nat) k d, ks[i]? = some k → xs[i]? = some d → ArgOk k d)
  | [], [], [], _, ks, hk, _, _, _ => by
    simp at hk; subst hk
    exact ⟨[], rfl, rfl, fun i v d h => by simp at h, fun i v d h => by simp at h⟩
  | t :: ts, v :: vs, d :: ds, ps, ks, hk, hA, hv, hw => by
    obtain ⟨p, q, h0, h1, rfl⟩ := hA
    rw [List.mapM_cons] at hk
    simp only [bind, Option.bind_eq_some_iff, pure, Option.some.injEq] at hk
    obtain ⟨k, hk0, ks', hk1, rfl⟩ := hk
    simp only [DataW.weightsEach, List.mem_append] at hw
    obtain ⟨x, hx1, hx2⟩ := read_arg hk0 (hv 0 t v rfl rfl) h0 (fun m hm => hw m (.inl hm))
    obtain ⟨xs, a, b, c, e⟩ := read_args hk1 h1 (fun j t v ht hv' => hv (j + 1) t v ht hv') (fun m hm => hw m (.inr hm))
    refine ⟨x :: xs, by simp [a], by simp [b], fun i v d hv hd => ?_, fun i k d hk hd => ?_⟩
    · cases i with
      | zero => simp at hv hd; subst hv; subst hd; exact hx1
      | succ i => exact c i v d (by simpa using hv) (by simpa using hd)
    · cases i with
      | zero => simp at hk hd; subst hk; subst hd; exact hx2
      | succ i => exact e i k d (by simpa using hk) (by simpa using hd)
  | [], _ :: _, _, _, _, _, h, _, _ => h.elim
  | [], [], _ :: _, _, _, _, h, _, _ => h.elim
  | _ :: _, [], _, _, _, _, h, _, _ => h.elim
  | _ :: _, _ :: _, [], _, _, _, h, _, _ => h.elim

/-- the call of a law that is true of all plain inputs -/
theorem law_calls {S : Nat → Option Fn} (hm : P.follows .mixedOrders = true) {f : Nat} {fn : Func} (hf : P.funcs[f]? = some fn) {e : EFn} (hok : okFn P fn e = true) (hC : ∀ f', f' ∈ calleesOf e.body → Con P S f')
    {ks : List AK} (hks : fn.params.toList.mapM (argK P) = some ks)
    (hrun : ∀ args : List D, args.length = ks.length → (∀ (i : Nat) k d, ks[i]? = some k → args[i]? = some d → ArgOk k d) → ∃ n, e.run S n args [] = some (.bool true, []))
    {args : Array Value} {ds : List (DataW H)} {ps : List MemPlace} (hA : DataW.TrodAll enc P W 0 (fun _ => true) true fn.params.toList args.toList ds ps)
    (hval : ∀ (j : Nat) t v, fn.params[j]? = some t → args[j]? = some v → Value.okWide P W .any b0 t v)
    (hw : (DataW.weightsEach P fn.params.toList ds).all (· ≤ reachBytes) = true) :
    Calls P f args W fun e W' => e = .returned (.bool true) ∧ Go.RowKit.Below W.heap.size W W' := by
  obtain ⟨xs, h1, h2, h3, h4⟩ := read_args (b0 := b0) hks hA (fun j t v ht hv => hval j t v (by simpa using ht) (by simpa using hv)) (fun n hn => by simpa using List.all_eq_true.1 hw n hn)
  obtain ⟨n, hr⟩ := hrun xs h2 h4
  refine (fn_sound hm hf hok hC hr (g0 W) W args (inv0 W) (fun b h => by cases h) (by simpa using h1.symm) (fun i v d hv hd => h3 i v d (by simpa using hv) hd)).mono ?_
  rintro e W' ⟨v, g', rfl, I', _, _, F, hR, _⟩
  rw [hR.bool_inv]
  exact ⟨rfl, F.os, F.tape, F.out, F.sz, fun k hk => F.old k hk (own0 W k)⟩
end

end Ev

namespace Ev
open Go

variable {P : Program} {S : Nat → Option Fn}

mutual
/-- a value, but for what is known of its slices' room -/
def D.nm : D → D
  | .sl .any w els => .sl .any w (nmLL els)
  | .sl .nilk w els => .sl .any w (nmLL els)
  | .sl .nn w els => .sl .any w (nmLL els)
  | .sl .full w els => .sl .any w (nmLL els)
  | .agg ds => .agg (nmL ds)
  | d => d
def nmL : List D → List D
  | [] => []
  | d :: r => d.nm :: nmL r
def nmLL : List (List D) → List (List D)
  | [] => []
  | l :: r => nmL l :: nmLL r
end

theorem nmL_map : ∀ (l : List D), nmL l = l.map D.nm
  | [] => rfl
  | d :: r => by rw [nmL, nmL_map r]; rfl
theorem nmLL_map : ∀ (l : List (List D)), nmLL l = l.map nmL
  | [] => rfl
  | d :: r => by rw [nmLL, nmLL_map r]; rfl

theorem nm_pc {d : D} (h : d.pc = true) : d.nm.pc = true := by
  unfold D.pc at h
  split at h <;> first | (simp [D.nm, D.pc]; done) | (cases h; done)

theorem R.nm {g : G} {v : Value} {d : D} (h : R g v d) : R g v d.nm := by
  induction h with
  | int k n => exact .int k n
  | bool b => exact .bool b
  | str s => exact .str s
  | k v hv => exact .k v hv
  | sl0 a o w cap ha hs ho => cases o <;> first | exact .sl0 a _ w cap ha hs ho | exact .sl0 a .any w cap ha hs trivial
  | sl b off cap o w els vs hcap hw hpc hmu hr ho ih =>
    have hl : (nmLL els).length = els.length := by rw [nmLL_map, List.length_map]
    have hfl : (nmLL els).flatten = els.flatten.map D.nm := by
      rw [nmLL_map, List.map_flatten]
      congr 1
      exact List.map_congr_left fun l _ => nmL_map l
    have key : R g (.slice (some ⟨b, off, none⟩) els.length cap) (.sl .any w (nmLL els)) := by
      have := R.sl (g := g) b off cap .any w (nmLL els) vs (by rw [hl]; exact hcap)
        (fun el hel => by
          rw [nmLL_map] at hel
          obtain ⟨l, hl', rfl⟩ := List.mem_map.1 hel
          rw [nmL_map, List.length_map]; exact hw l hl')
        (fun el hel c hc => by
          rw [nmLL_map] at hel
          obtain ⟨l, hl', rfl⟩ := List.mem_map.1 hel
          rw [nmL_map] at hc
          obtain ⟨d, hd, rfl⟩ := List.mem_map.1 hc
          exact nm_pc (hpc l hl' d hd))
        (fun j hj => hmu j (by rw [hl] at hj; exact hj))
        (fun j d hd => by
          rw [hfl, List.getElem?_map] at hd
          cases hx : els.flatten[j]? with
          | none => rw [hx] at hd; cases hd
          | some x => rw [hx] at hd; cases hd; exact ih j x hx) trivial
      rw [hl] at this; exact this
    cases o <;> first | exact key | exact .sl b off cap _ w els vs hcap hw hpc hmu hr ho
  | ref b off ds vs hpc hmu hr => exact .ref b off ds vs hpc hmu hr
  | ptr j off hj => exact .ptr j off hj
  | loc j off w n cap hj hcap hl => exact .loc j off w n cap hj hcap hl
  | loc0 a j off w hj hs => exact .loc0 a j off w hj hs
  | clo f vs ds hl hr => exact .clo f vs ds hl hr
  | agg vs ds hl hr ih =>
    refine .agg vs _ (by rw [nmL_map, List.length_map]; exact hl) (fun i v d hv hd => ?_)
    rw [nmL_map, List.getElem?_map] at hd
    cases hx : ds[i]? with
    | none => rw [hx] at hd; cases hd
    | some x => rw [hx] at hd; cases hd; exact ih i v x hv hx
  | tup vs ds hl hr => exact .tup vs ds hl hr

def Blk.nm : Blk → Blk
  | .mem fr cells => .mem fr (cells.map D.nm)
  | b => b

theorem BOk.nm {B : List Blk} (h : BOk B) : BOk (B.map Blk.nm) := by
  intro b hb
  obtain ⟨b0, hb0, rfl⟩ := List.mem_map.1 hb
  obtain ⟨cells, rfl, hp⟩ := h b0 hb0
  refine ⟨cells.map D.nm, rfl, ?_⟩
  rw [List.all_map]
  exact List.all_eq_true.2 fun d hd => nm_pc (List.all_eq_true.1 hp d hd)

theorem live_nm {g : G} {B : List Blk} {T : List Nat} {j : Nat} : live g ⟨B.map Blk.nm, T⟩ j ↔ live g ⟨B, T⟩ j := by
  unfold live
  constructor
  · rintro ⟨h0, h1⟩
    refine ⟨h0, ?_⟩
    rcases h1 with ⟨c, h1⟩ | ⟨s, p, h1⟩
    · simp only [List.getElem?_map, Option.map_eq_some_iff] at h1
      obtain ⟨b, hb, e⟩ := h1
      cases b <;> simp [Blk.nm] at e
      obtain ⟨rfl, _⟩ := e
      exact .inl ⟨_, hb⟩
    · simp only [List.getElem?_map, Option.map_eq_some_iff] at h1
      obtain ⟨b, hb, e⟩ := h1
      cases b <;> simp [Blk.nm] at e
      obtain ⟨rfl, rfl⟩ := e
      exact .inr ⟨_, _, hb⟩
  · rintro ⟨h0, h1⟩
    refine ⟨h0, ?_⟩
    rcases h1 with ⟨c, h1⟩ | ⟨s, p, h1⟩
    · exact .inl ⟨c.map D.nm, by simp only [List.getElem?_map]; rw [show B[j]? = _ from h1]; rfl⟩
    · exact .inr ⟨s, p, by simp only [List.getElem?_map]; rw [show B[j]? = _ from h1]; rfl⟩

theorem Owns_nm {g : G} {B : List Blk} {T : List Nat} {b : Nat} : Owns g ⟨B.map Blk.nm, T⟩ b ↔ Owns g ⟨B, T⟩ b := by
  unfold Owns; simp only [live_nm]

theorem BlkOk.nm {g : G} {w : World} {j : Nat} {x : Blk} (h : BlkOk g w j x) : BlkOk g w j x.nm := by
  cases x with
  | iter s p => exact h
  | dead => exact h
  | mem fr cells =>
    have hget : ∀ (i : Nat) d, (cells.map D.nm)[i]? = some d → ∃ x, cells[i]? = some x ∧ d = x.nm := by
      intro i d hd
      rw [List.getElem?_map] at hd
      cases hx : cells[i]? with
      | none => rw [hx] at hd; cases hd
      | some x => rw [hx] at hd; cases hd; exact ⟨x, rfl, rfl⟩
    cases fr with
    | true =>
      refine ⟨fun c hc => ?_, fun i d hd => ?_⟩
      · obtain ⟨c0, hc0, rfl⟩ := List.mem_map.1 hc
        exact nm_pc (h.1 c0 hc0)
      · obtain ⟨x, hx, rfl⟩ := hget i d hd
        obtain ⟨v, hv, hR⟩ := h.2 i x hx
        exact ⟨v, hv, hR.nm⟩
    | false =>
      rcases h with ⟨q0, rfl⟩ | ⟨q0, q1, q2, q3, q4, q5⟩
      · exact .inl ⟨q0, rfl⟩
      · refine .inr ⟨q0, q1, by simp only [List.length_map]; exact q2, q3, q4, fun i d hd => ?_⟩
        obtain ⟨x, hx, rfl⟩ := hget i d hd
        obtain ⟨v, hv, hR⟩ := q5 i x hx
        exact ⟨v, hv, hR.nm⟩

theorem Inv.nm {g : G} {B : List Blk} {T : List Nat} {w : World} (I : Inv g ⟨B, T⟩ w) : Inv g ⟨B.map Blk.nm, T⟩ w := by
  refine ⟨by simp only [List.length_map]; exact I.nb, I.nt, I.mem, fun j x hx => ?_, I.tok, I.rho, fun i j hi hj => I.exb i j (live_nm.1 hi) (live_nm.1 hj), I.exr, fun j k en sz hj => I.exm j k en sz (live_nm.1 hj)⟩
  simp only [List.getElem?_map, Option.map_eq_some_iff] at hx
  obtain ⟨b, hb, rfl⟩ := hx
  exact (I.blk j b hb).nm

theorem Fr.nm {B B' : List Blk} {g g' : G} {w w' : World} (F : Fr ⟨B.map Blk.nm, []⟩ g w ⟨B', []⟩ g' w') : Fr ⟨B, []⟩ g w ⟨B'.map Blk.nm, []⟩ g' w' :=
  ⟨F.le, F.sz, fun b hb ho => F.old b hb (fun h => ho (Owns_nm.1 h)), fun b hb ho => F.omu b hb (fun h => ho (Owns_nm.1 h)), fun b hb ho => Owns_nm.1 (F.own b hb (Owns_nm.1 ho)), F.os, F.tape, F.out⟩

/-- a result, but for what is known of its slices' room -/
def D.nmR : D → D
  | .tup ds => .tup (nmL ds)
  | d => d.nm

theorem Res1.nm {g : G} {B : List Blk} {w : World} {lo : Nat} {v : Value} {d : D} (h : Res1 g ⟨B, []⟩ w lo v d) : Res1 g ⟨B.map Blk.nm, []⟩ w lo v d.nm := by
  have pure : ∀ {d : D}, R g v d → d.pv = true → R g v d.nm ∧ d.nm.pv = true := by
    intro d hR hp
    refine ⟨hR.nm, ?_⟩
    unfold D.pv at hp
    split at hp
    · simp only [D.nm, D.pv, nmL_map, List.all_map]
      exact List.all_eq_true.2 fun c hc => nm_pc (List.all_eq_true.1 hp c hc)
    · rename_i hn
      have := nm_pc hp
      cases d <;> first | exact this | (rename_i o w els; cases o <;> first | exact this | (simp [D.pc] at hp)) | exact absurd rfl (hn _)
  unfold Res1 at h
  split at h
  · rcases h with h | ⟨b, off, cap, h1, h2, h3, h4⟩
    · exact .inl h
    · exact .inr ⟨b, off, cap, h1, h2, fun x => h3 (Owns_nm.1 x), h4⟩
  · obtain ⟨hR, h | ⟨b, off, cap, sz, h1, h2, h3, h4⟩⟩ := h
    · exact ⟨hR, .inl h⟩
    · exact ⟨hR, .inr ⟨b, off, cap, sz, h1, h2, fun x => h3 (Owns_nm.1 x), h4⟩⟩
  · have := pure h.1 h.2
    rename_i hn1 hn2
    cases d <;> first | exact this | (rename_i o w els; cases o <;> first | exact this | exact absurd rfl (hn1 _ _) | exact absurd rfl (hn2 _ _))

theorem isNew_nm (d : D) : isNew d.nm = isNew d := by
  cases d <;> first | rfl | (rename_i o w els; cases o <;> rfl)

theorem Res.nm {g : G} {B : List Blk} {w : World} {lo : Nat} {v : Value} {d : D} (h : Res g ⟨B, []⟩ w lo v d) : Res g ⟨B.map Blk.nm, []⟩ w lo v d.nmR := by
  unfold Res at h
  split at h
  · rename_i ds
    obtain ⟨⟨vs, h1, h2, h3⟩, h4⟩ := h
    refine ⟨⟨vs, h1, by rw [nmL_map, List.length_map]; exact h2, fun i v d hv hd => ?_⟩, ?_⟩
    · rw [nmL_map, List.getElem?_map] at hd
      cases hx : ds[i]? with
      | none => rw [hx] at hd; cases hd
      | some x => rw [hx] at hd; cases hd; exact (h3 i v x hv hx).nm
    · rw [nmL_map, List.filter_map, List.length_map]
      rw [show (isNew ∘ D.nm) = isNew from funext isNew_nm]; exact h4
  · rename_i hn
    have := h.nm
    have e : d.nmR = d.nm := by cases d <;> first | rfl | exact absurd rfl (hn _)
    rw [e]
    unfold Res
    split
    · rename_i ds hd
      exfalso
      cases d <;> first | exact (hn _ rfl).elim | (simp [D.nm] at hd; done) | (rename_i o w els; cases o <;> simp [D.nm] at hd)
    · exact this

/-- a function, told of one form of each value -/
def lift (G : Fn) : Fn := fun args B => G (args.map D.nm) (B.map Blk.nm)

/-- a function whose plain form comes to what G says -/
theorem con_lift (hm : P.follows .mixedOrders = true) {f : Nat} {fn : Func} (hf : P.funcs[f]? = some fn) {e : EFn} (hok : okFn P fn e = true) (hC : ∀ f', f' ∈ calleesOf e.body → Con P S f') {G : Fn} (hS : S f = some (lift G))
    (h : ∀ args B r B', G args B = some (r, B') → ∃ n r0 B0, e.run S n args B = some (r0, B0) ∧ r0.nmR = r ∧ B0.map Blk.nm = B') : Con P S f := by
  intro F hF args B r B' hr g w vs I hO hsz hRv
  rw [hS] at hF
  cases hF
  obtain ⟨n, r0, B0, hrun, rfl, rfl⟩ := h _ _ _ _ hr
  refine (fn_sound hm hf hok hC hrun g w vs I.nm hO.nm (by simpa using hsz) (fun i v d hv hd => ?_)).mono ?_
  · rw [List.getElem?_map] at hd
    cases hx : args[i]? with
    | none => rw [hx] at hd; cases hd
    | some x => rw [hx] at hd; cases hd; exact (hRv i v x hv hx).nm
  · rintro e' w' ⟨v, g', rfl, I', hO', hl', F', hR'⟩
    exact ⟨v, g', rfl, I'.nm, hO'.nm, by simpa using hl', F'.nm, hR'.nm⟩

end Ev

namespace Ev
open Go

def B8 (x : UInt8) : D := .int .u8 x.toNat
def W32 (x : BitVec 32) : D := .int .u32 x.toNat
def W64 (x : BitVec 64) : D := .int .u64 x.toNat
/-- an int -/
def N64 (n : Int) : D := .int .i64 n
/-- a rune -/
def N32 (n : Int) : D := .int .i32 n

theorem wrap_u32 (n : Int) : IntKind.u32.wrap n = n % 4294967296 := by simp [IntKind.wrap, IntKind.signed, IntKind.bits]
theorem wrap_u64 (n : Int) : IntKind.u64.wrap n = n % 18446744073709551616 := by simp [IntKind.wrap, IntKind.signed, IntKind.bits]
theorem wrap_u8 (n : Int) : IntKind.u8.wrap n = n % 256 := by simp [IntKind.wrap, IntKind.signed, IntKind.bits]
theorem wrap_i64 {n : Int} (h : -9223372036854775808 ≤ n ∧ n < 9223372036854775808) : IntKind.i64.wrap n = n := by
  simp [IntKind.wrap, IntKind.signed, IntKind.bits]; omega
theorem wrap_i32 {n : Int} (h : -2147483648 ≤ n ∧ n < 2147483648) : IntKind.i32.wrap n = n := by
  simp [IntKind.wrap, IntKind.signed, IntKind.bits]; omega

-- ------------------------------------------------------------------ words of 32 bits
section
variable (x y : BitVec 32)
theorem W32_add : runBin .add (W32 x) (W32 y) = some (W32 (x + y)) := by
  simp only [runBin, W32, binInt, if_true, wrap_u32, BitVec.toNat_add, Option.some.injEq, D.int.injEq, true_and]; omega
theorem W32_sub : runBin .sub (W32 x) (W32 y) = some (W32 (x - y)) := by
  have := x.isLt; have := y.isLt
  simp only [runBin, W32, binInt, if_true, wrap_u32, BitVec.toNat_sub, Option.some.injEq, D.int.injEq, true_and]; omega
theorem W32_mul : runBin .mul (W32 x) (W32 y) = some (W32 (x * y)) := by
  simp only [runBin, W32, binInt, if_true, wrap_u32, BitVec.toNat_mul, Option.some.injEq, D.int.injEq, true_and]
  rw [← Int.natCast_mul]; omega
theorem W32_xor : runBin .xor (W32 x) (W32 y) = some (W32 (x ^^^ y)) := by
  have := (x ^^^ y).isLt
  have e : runBin .xor (W32 x) (W32 y) = some (.int .u32 (IntKind.u32.wrap ((x ^^^ y).toNat : Int))) := by
    show some (D.int .u32 (IntKind.u32.wrap ((BitVec.ofInt 32 x.toNat ^^^ BitVec.ofInt 32 y.toNat).toNat : Int))) = _
    simp only [BitVec.ofInt_natCast, BitVec.ofNat_toNat, BitVec.setWidth_eq]
  rw [e, wrap_u32, Int.emod_eq_of_lt (by omega) (by omega)]; rfl
theorem W32_or : runBin .or (W32 x) (W32 y) = some (W32 (x ||| y)) := by
  have := (x ||| y).isLt
  have e : runBin .or (W32 x) (W32 y) = some (.int .u32 (IntKind.u32.wrap ((x ||| y).toNat : Int))) := by
    show some (D.int .u32 (IntKind.u32.wrap ((BitVec.ofInt 32 x.toNat ||| BitVec.ofInt 32 y.toNat).toNat : Int))) = _
    simp only [BitVec.ofInt_natCast, BitVec.ofNat_toNat, BitVec.setWidth_eq]
  rw [e, wrap_u32, Int.emod_eq_of_lt (by omega) (by omega)]; rfl
theorem W32_and : runBin .and (W32 x) (W32 y) = some (W32 (x &&& y)) := by
  have := (x &&& y).isLt
  have e : runBin .and (W32 x) (W32 y) = some (.int .u32 (IntKind.u32.wrap ((x &&& y).toNat : Int))) := by
    show some (D.int .u32 (IntKind.u32.wrap ((BitVec.ofInt 32 x.toNat &&& BitVec.ofInt 32 y.toNat).toNat : Int))) = _
    simp only [BitVec.ofInt_natCast, BitVec.ofNat_toNat, BitVec.setWidth_eq]
  rw [e, wrap_u32, Int.emod_eq_of_lt (by omega) (by omega)]; rfl
theorem W32_quo (h : y.toNat ≠ 0) : runBin .quo (W32 x) (W32 y) = some (W32 (BitVec.ofNat 32 (x.toNat / y.toNat))) := by
  have hx := x.isLt
  have h2 : x.toNat / y.toNat < 4294967296 := Nat.lt_of_le_of_lt (Nat.div_le_self _ _) hx
  simp only [runBin, W32, binInt, if_true, wrap_u32, BitVec.toNat_ofNat]
  rw [if_neg (by omega)]
  simp only [Option.some.injEq, D.int.injEq, true_and]
  rw [← Int.ofNat_tdiv]; omega
theorem W32_rem (h : y.toNat ≠ 0) : runBin .rem (W32 x) (W32 y) = some (W32 (BitVec.ofNat 32 (x.toNat % y.toNat))) := by
  have hx := x.isLt
  have h2 : x.toNat % y.toNat < 4294967296 := Nat.lt_of_le_of_lt (Nat.mod_le _ _) hx
  simp only [runBin, W32, binInt, if_true, BitVec.toNat_ofNat]
  rw [if_neg (by omega)]
  simp only [Option.some.injEq, D.int.injEq, true_and]
  rw [← Int.ofNat_tmod]; omega
theorem W32_eql : runBin .eql (W32 x) (W32 y) = some (.bool (decide (x.toNat = y.toNat))) := by
  simp only [runBin, W32, binInt, if_true, Option.some.injEq, D.bool.injEq]
  by_cases h : x.toNat = y.toNat <;> simp [h]; omega
theorem W32_neq : runBin .neq (W32 x) (W32 y) = some (.bool (decide (x.toNat ≠ y.toNat))) := by
  simp only [runBin, W32, binInt, if_true, Option.some.injEq, D.bool.injEq]
  by_cases h : x.toNat = y.toNat <;> simp [h]; omega
theorem W32_lss : runBin .lss (W32 x) (W32 y) = some (.bool (decide (x.toNat < y.toNat))) := by
  simp only [runBin, W32, binInt, if_true, Option.some.injEq, D.bool.injEq, decide_eq_decide]; omega
theorem W32_gtr : runBin .gtr (W32 x) (W32 y) = some (.bool (decide (x.toNat > y.toNat))) := by
  simp only [runBin, W32, binInt, if_true, Option.some.injEq, D.bool.injEq, decide_eq_decide]; omega
theorem W32_leq : runBin .leq (W32 x) (W32 y) = some (.bool (decide (x.toNat ≤ y.toNat))) := by
  simp only [runBin, W32, binInt, if_true, Option.some.injEq, D.bool.injEq, decide_eq_decide]; omega
theorem W32_geq : runBin .geq (W32 x) (W32 y) = some (.bool (decide (x.toNat ≥ y.toNat))) := by
  simp only [runBin, W32, binInt, if_true, Option.some.injEq, D.bool.injEq, decide_eq_decide]; omega
end

theorem shl32 (x : BitVec 32) (k : IntKind) (n : Nat) : runBin .shl (W32 x) (.int k n) = some (W32 (x <<< n)) := by
  have h0 : ¬ ((n : Int) < 0) := by omega
  simp only [runBin, W32, shInt, if_neg h0, wrap_u32, Int.toNat_natCast, IntKind.bits, BitVec.toNat_shiftLeft, Nat.shiftLeft_eq, Option.some.injEq, D.int.injEq, true_and]
  by_cases hn : n ≤ 32
  · rw [Nat.min_eq_left hn, show ((2 : Int) ^ n) = ((2 ^ n : Nat) : Int) by simp, ← Int.natCast_mul]; omega
  · rw [Nat.min_eq_right (by omega)]
    have : x.toNat * 2 ^ n = x.toNat * 2 ^ (n - 32) * 4294967296 := by rw [Nat.mul_assoc, show (4294967296 : Nat) = 2 ^ 32 from rfl, ← Nat.pow_add]; congr 2; omega
    rw [this]; omega
theorem shr32 (x : BitVec 32) (k : IntKind) (n : Nat) : runBin .shr (W32 x) (.int k n) = some (W32 (x >>> n)) := by
  have h0 : ¬ ((n : Int) < 0) := by omega
  have hx := x.isLt
  simp only [runBin, W32, shInt, if_neg h0, Int.toNat_natCast, IntKind.bits, BitVec.toNat_ushiftRight, Nat.shiftRight_eq_div_pow, Option.some.injEq, D.int.injEq, true_and]
  by_cases hn : n ≤ 32
  · rw [Nat.min_eq_left hn, show ((2 : Int) ^ n) = ((2 ^ n : Nat) : Int) by simp, ← Int.ofNat_fdiv]
  · rw [Nat.min_eq_right (by omega)]
    have h1 : x.toNat / 2 ^ n = 0 := Nat.div_eq_of_lt (Nat.lt_of_lt_of_le hx (Nat.pow_le_pow_right (by omega) (by omega)))
    rw [h1, show ((2 : Int) ^ 32) = ((2 ^ 32 : Nat) : Int) by simp, ← Int.ofNat_fdiv, Nat.div_eq_of_lt hx]

-- ------------------------------------------------------------------ words of 64 bits
section
variable (x y : BitVec 64)
theorem W64_add : runBin .add (W64 x) (W64 y) = some (W64 (x + y)) := by
  simp only [runBin, W64, binInt, if_true, wrap_u64, BitVec.toNat_add, Option.some.injEq, D.int.injEq, true_and]; omega
theorem W64_sub : runBin .sub (W64 x) (W64 y) = some (W64 (x - y)) := by
  have := x.isLt; have := y.isLt
  simp only [runBin, W64, binInt, if_true, wrap_u64, BitVec.toNat_sub, Option.some.injEq, D.int.injEq, true_and]; omega
theorem W64_mul : runBin .mul (W64 x) (W64 y) = some (W64 (x * y)) := by
  simp only [runBin, W64, binInt, if_true, wrap_u64, BitVec.toNat_mul, Option.some.injEq, D.int.injEq, true_and]
  rw [← Int.natCast_mul]; omega
theorem W64_xor : runBin .xor (W64 x) (W64 y) = some (W64 (x ^^^ y)) := by
  have := (x ^^^ y).isLt
  have e : runBin .xor (W64 x) (W64 y) = some (.int .u64 (IntKind.u64.wrap ((x ^^^ y).toNat : Int))) := by
    show some (D.int .u64 (IntKind.u64.wrap ((BitVec.ofInt 64 x.toNat ^^^ BitVec.ofInt 64 y.toNat).toNat : Int))) = _
    simp only [BitVec.ofInt_natCast, BitVec.ofNat_toNat, BitVec.setWidth_eq]
  rw [e, wrap_u64, Int.emod_eq_of_lt (by omega) (by omega)]; rfl
theorem W64_or : runBin .or (W64 x) (W64 y) = some (W64 (x ||| y)) := by
  have := (x ||| y).isLt
  have e : runBin .or (W64 x) (W64 y) = some (.int .u64 (IntKind.u64.wrap ((x ||| y).toNat : Int))) := by
    show some (D.int .u64 (IntKind.u64.wrap ((BitVec.ofInt 64 x.toNat ||| BitVec.ofInt 64 y.toNat).toNat : Int))) = _
    simp only [BitVec.ofInt_natCast, BitVec.ofNat_toNat, BitVec.setWidth_eq]
  rw [e, wrap_u64, Int.emod_eq_of_lt (by omega) (by omega)]; rfl
theorem W64_and : runBin .and (W64 x) (W64 y) = some (W64 (x &&& y)) := by
  have := (x &&& y).isLt
  have e : runBin .and (W64 x) (W64 y) = some (.int .u64 (IntKind.u64.wrap ((x &&& y).toNat : Int))) := by
    show some (D.int .u64 (IntKind.u64.wrap ((BitVec.ofInt 64 x.toNat &&& BitVec.ofInt 64 y.toNat).toNat : Int))) = _
    simp only [BitVec.ofInt_natCast, BitVec.ofNat_toNat, BitVec.setWidth_eq]
  rw [e, wrap_u64, Int.emod_eq_of_lt (by omega) (by omega)]; rfl
theorem W64_quo (h : y.toNat ≠ 0) : runBin .quo (W64 x) (W64 y) = some (W64 (BitVec.ofNat 64 (x.toNat / y.toNat))) := by
  have hx := x.isLt
  have h2 : x.toNat / y.toNat < 18446744073709551616 := Nat.lt_of_le_of_lt (Nat.div_le_self _ _) hx
  simp only [runBin, W64, binInt, if_true, wrap_u64, BitVec.toNat_ofNat]
  rw [if_neg (by omega)]
  simp only [Option.some.injEq, D.int.injEq, true_and]
  rw [← Int.ofNat_tdiv]; omega
theorem W64_rem (h : y.toNat ≠ 0) : runBin .rem (W64 x) (W64 y) = some (W64 (BitVec.ofNat 64 (x.toNat % y.toNat))) := by
  have hx := x.isLt
  have h2 : x.toNat % y.toNat < 18446744073709551616 := Nat.lt_of_le_of_lt (Nat.mod_le _ _) hx
  simp only [runBin, W64, binInt, if_true, BitVec.toNat_ofNat]
  rw [if_neg (by omega)]
  simp only [Option.some.injEq, D.int.injEq, true_and]
  rw [← Int.ofNat_tmod]; omega
theorem W64_eql : runBin .eql (W64 x) (W64 y) = some (.bool (decide (x.toNat = y.toNat))) := by
  simp only [runBin, W64, binInt, if_true, Option.some.injEq, D.bool.injEq]
  by_cases h : x.toNat = y.toNat <;> simp [h]; omega
theorem W64_neq : runBin .neq (W64 x) (W64 y) = some (.bool (decide (x.toNat ≠ y.toNat))) := by
  simp only [runBin, W64, binInt, if_true, Option.some.injEq, D.bool.injEq]
  by_cases h : x.toNat = y.toNat <;> simp [h]; omega
theorem W64_lss : runBin .lss (W64 x) (W64 y) = some (.bool (decide (x.toNat < y.toNat))) := by
  simp only [runBin, W64, binInt, if_true, Option.some.injEq, D.bool.injEq, decide_eq_decide]; omega
theorem W64_gtr : runBin .gtr (W64 x) (W64 y) = some (.bool (decide (x.toNat > y.toNat))) := by
  simp only [runBin, W64, binInt, if_true, Option.some.injEq, D.bool.injEq, decide_eq_decide]; omega
theorem W64_leq : runBin .leq (W64 x) (W64 y) = some (.bool (decide (x.toNat ≤ y.toNat))) := by
  simp only [runBin, W64, binInt, if_true, Option.some.injEq, D.bool.injEq, decide_eq_decide]; omega
theorem W64_geq : runBin .geq (W64 x) (W64 y) = some (.bool (decide (x.toNat ≥ y.toNat))) := by
  simp only [runBin, W64, binInt, if_true, Option.some.injEq, D.bool.injEq, decide_eq_decide]; omega
end

theorem shl64 (x : BitVec 64) (k : IntKind) (n : Nat) : runBin .shl (W64 x) (.int k n) = some (W64 (x <<< n)) := by
  have h0 : ¬ ((n : Int) < 0) := by omega
  simp only [runBin, W64, shInt, if_neg h0, wrap_u64, Int.toNat_natCast, IntKind.bits, BitVec.toNat_shiftLeft, Nat.shiftLeft_eq, Option.some.injEq, D.int.injEq, true_and]
  by_cases hn : n ≤ 64
  · rw [Nat.min_eq_left hn, show ((2 : Int) ^ n) = ((2 ^ n : Nat) : Int) by simp, ← Int.natCast_mul]; omega
  · rw [Nat.min_eq_right (by omega)]
    have : x.toNat * 2 ^ n = x.toNat * 2 ^ (n - 64) * 18446744073709551616 := by rw [Nat.mul_assoc, show (18446744073709551616 : Nat) = 2 ^ 64 from rfl, ← Nat.pow_add]; congr 2; omega
    rw [this]; omega
theorem shr64 (x : BitVec 64) (k : IntKind) (n : Nat) : runBin .shr (W64 x) (.int k n) = some (W64 (x >>> n)) := by
  have h0 : ¬ ((n : Int) < 0) := by omega
  have hx := x.isLt
  simp only [runBin, W64, shInt, if_neg h0, Int.toNat_natCast, IntKind.bits, BitVec.toNat_ushiftRight, Nat.shiftRight_eq_div_pow, Option.some.injEq, D.int.injEq, true_and]
  by_cases hn : n ≤ 64
  · rw [Nat.min_eq_left hn, show ((2 : Int) ^ n) = ((2 ^ n : Nat) : Int) by simp, ← Int.ofNat_fdiv]
  · rw [Nat.min_eq_right (by omega)]
    have h1 : x.toNat / 2 ^ n = 0 := Nat.div_eq_of_lt (Nat.lt_of_lt_of_le hx (Nat.pow_le_pow_right (by omega) (by omega)))
    rw [h1, show ((2 : Int) ^ 64) = ((2 ^ 64 : Nat) : Int) by simp, ← Int.ofNat_fdiv, Nat.div_eq_of_lt hx]

-- ------------------------------------------------------------------ ints
section
variable (a b : Int)
theorem N64_add : runBin .add (N64 a) (N64 b) = some (N64 (IntKind.i64.wrap (a + b))) := rfl
theorem N64_sub : runBin .sub (N64 a) (N64 b) = some (N64 (IntKind.i64.wrap (a - b))) := rfl
theorem N64_mul : runBin .mul (N64 a) (N64 b) = some (N64 (IntKind.i64.wrap (a * b))) := rfl
theorem N64_quo (h : b ≠ 0) : runBin .quo (N64 a) (N64 b) = some (N64 (IntKind.i64.wrap (a.tdiv b))) := by simp [runBin, N64, binInt, h]
theorem N64_rem (h : b ≠ 0) : runBin .rem (N64 a) (N64 b) = some (N64 (a.tmod b)) := by simp [runBin, N64, binInt, h]
theorem N64_eql : runBin .eql (N64 a) (N64 b) = some (.bool (decide (a = b))) := rfl
theorem N64_neq : runBin .neq (N64 a) (N64 b) = some (.bool (decide (a ≠ b))) := by
  simp only [runBin, N64, binInt, if_true, Option.some.injEq, D.bool.injEq]; by_cases h : a = b <;> simp [h]
theorem N64_lss : runBin .lss (N64 a) (N64 b) = some (.bool (decide (a < b))) := rfl
theorem N64_gtr : runBin .gtr (N64 a) (N64 b) = some (.bool (decide (a > b))) := rfl
theorem N64_leq : runBin .leq (N64 a) (N64 b) = some (.bool (decide (a ≤ b))) := rfl
theorem N64_geq : runBin .geq (N64 a) (N64 b) = some (.bool (decide (a ≥ b))) := rfl
theorem N32_add : runBin .add (N32 a) (N32 b) = some (N32 (IntKind.i32.wrap (a + b))) := rfl
theorem N32_sub : runBin .sub (N32 a) (N32 b) = some (N32 (IntKind.i32.wrap (a - b))) := rfl
theorem N32_eql : runBin .eql (N32 a) (N32 b) = some (.bool (decide (a = b))) := rfl
theorem N32_neq : runBin .neq (N32 a) (N32 b) = some (.bool (decide (a ≠ b))) := by
  simp only [runBin, N32, binInt, if_true, Option.some.injEq, D.bool.injEq]; by_cases h : a = b <;> simp [h]
theorem N32_lss : runBin .lss (N32 a) (N32 b) = some (.bool (decide (a < b))) := rfl
theorem N32_gtr : runBin .gtr (N32 a) (N32 b) = some (.bool (decide (a > b))) := rfl
theorem N32_leq : runBin .leq (N32 a) (N32 b) = some (.bool (decide (a ≤ b))) := rfl
theorem N32_geq : runBin .geq (N32 a) (N32 b) = some (.bool (decide (a ≥ b))) := rfl
end

-- ------------------------------------------------------------------ bytes
section
variable (x y : UInt8)
theorem B8_xor : runBin .xor (B8 x) (B8 y) = some (B8 (x ^^^ y)) := by
  have := (x ^^^ y).toNat_lt
  have e : runBin .xor (B8 x) (B8 y) = some (.int .u8 (IntKind.u8.wrap ((x ^^^ y).toNat : Int))) := by
    show some (D.int .u8 (IntKind.u8.wrap ((BitVec.ofInt 8 x.toNat ^^^ BitVec.ofInt 8 y.toNat).toNat : Int))) = _
    rw [show (BitVec.ofInt 8 x.toNat ^^^ BitVec.ofInt 8 y.toNat).toNat = (x ^^^ y).toNat by simp]
  rw [e, wrap_u8, Int.emod_eq_of_lt (by omega) (by omega)]; rfl
theorem B8_add : runBin .add (B8 x) (B8 y) = some (B8 (x + y)) := by
  simp only [runBin, B8, binInt, if_true, wrap_u8, UInt8.toNat_add, Option.some.injEq, D.int.injEq, true_and]; omega
theorem B8_eql : runBin .eql (B8 x) (B8 y) = some (.bool (decide (x = y))) := by
  simp only [runBin, B8, binInt, if_true, Option.some.injEq, D.bool.injEq]
  by_cases h : x = y
  · simp [h]
  · have : x.toNat ≠ y.toNat := fun e => h (UInt8.toNat_inj.1 e)
    simp [h]; omega
theorem B8_neq : runBin .neq (B8 x) (B8 y) = some (.bool (decide (x ≠ y))) := by
  simp only [runBin, B8, binInt, if_true, Option.some.injEq, D.bool.injEq]
  by_cases h : x = y
  · simp [h]
  · have : x.toNat ≠ y.toNat := fun e => h (UInt8.toNat_inj.1 e)
    simp [h]; omega
theorem B8_lss : runBin .lss (B8 x) (B8 y) = some (.bool (decide (x.toNat < y.toNat))) := by
  simp only [runBin, B8, binInt, if_true, Option.some.injEq, D.bool.injEq, decide_eq_decide]; omega
theorem B8_gtr : runBin .gtr (B8 x) (B8 y) = some (.bool (decide (x.toNat > y.toNat))) := by
  simp only [runBin, B8, binInt, if_true, Option.some.injEq, D.bool.injEq, decide_eq_decide]; omega
theorem B8_leq : runBin .leq (B8 x) (B8 y) = some (.bool (decide (x.toNat ≤ y.toNat))) := by
  simp only [runBin, B8, binInt, if_true, Option.some.injEq, D.bool.injEq, decide_eq_decide]; omega
theorem B8_geq : runBin .geq (B8 x) (B8 y) = some (.bool (decide (x.toNat ≥ y.toNat))) := by
  simp only [runBin, B8, binInt, if_true, Option.some.injEq, D.bool.injEq, decide_eq_decide]; omega
end

-- ------------------------------------------------------------------ conversions
section
variable (A : St) (m : Mode)
theorem cv_B8_W32 (x : UInt8) : cvD A m (.toInt .u32) (B8 x) = some (W32 (BitVec.ofNat 32 x.toNat), A) := by
  have := x.toNat_lt
  simp only [cvD, B8, W32, wrap_u32, BitVec.toNat_ofNat, Option.some.injEq, Prod.mk.injEq, D.int.injEq, true_and, and_true]; omega
theorem cv_B8_W64 (x : UInt8) : cvD A m (.toInt .u64) (B8 x) = some (W64 (BitVec.ofNat 64 x.toNat), A) := by
  have := x.toNat_lt
  simp only [cvD, B8, W64, wrap_u64, BitVec.toNat_ofNat, Option.some.injEq, Prod.mk.injEq, D.int.injEq, true_and, and_true]; omega
theorem cv_B8_N64 (x : UInt8) : cvD A m (.toInt .i64) (B8 x) = some (N64 x.toNat, A) := by
  have := x.toNat_lt
  simp only [cvD, B8, N64]; rw [wrap_i64 (by omega)]
theorem cv_B8_N32 (x : UInt8) : cvD A m (.toInt .i32) (B8 x) = some (N32 x.toNat, A) := by
  have := x.toNat_lt
  simp only [cvD, B8, N32]; rw [wrap_i32 (by omega)]
theorem cv_W32_B8 (x : BitVec 32) : cvD A m (.toInt .u8) (W32 x) = some (B8 (UInt8.ofNat x.toNat), A) := by
  simp only [cvD, B8, W32, wrap_u8, UInt8.toNat_ofNat', Option.some.injEq, Prod.mk.injEq, D.int.injEq, true_and, and_true]; omega
theorem cv_W64_B8 (x : BitVec 64) : cvD A m (.toInt .u8) (W64 x) = some (B8 (UInt8.ofNat x.toNat), A) := by
  simp only [cvD, B8, W64, wrap_u8, UInt8.toNat_ofNat', Option.some.injEq, Prod.mk.injEq, D.int.injEq, true_and, and_true]; omega
theorem cv_N64_B8 (n : Int) : cvD A m (.toInt .u8) (N64 n) = some (B8 (UInt8.ofNat (n % 256).toNat), A) := by
  simp only [cvD, B8, N64, wrap_u8, UInt8.toNat_ofNat', Option.some.injEq, Prod.mk.injEq, D.int.injEq, true_and, and_true]; omega
theorem cv_N32_B8 (n : Int) : cvD A m (.toInt .u8) (N32 n) = some (B8 (UInt8.ofNat (n % 256).toNat), A) := by
  simp only [cvD, B8, N32, wrap_u8, UInt8.toNat_ofNat', Option.some.injEq, Prod.mk.injEq, D.int.injEq, true_and, and_true]; omega
theorem cv_N64_W64 (n : Int) : cvD A m (.toInt .u64) (N64 n) = some (W64 (BitVec.ofNat 64 (n % 18446744073709551616).toNat), A) := by
  simp only [cvD, W64, N64, wrap_u64, BitVec.toNat_ofNat, Option.some.injEq, Prod.mk.injEq, D.int.injEq, true_and, and_true]; omega
theorem cv_N64_W32 (n : Int) : cvD A m (.toInt .u32) (N64 n) = some (W32 (BitVec.ofNat 32 (n % 4294967296).toNat), A) := by
  simp only [cvD, W32, N64, wrap_u32, BitVec.toNat_ofNat, Option.some.injEq, Prod.mk.injEq, D.int.injEq, true_and, and_true]; omega
theorem cv_W32_N64 (x : BitVec 32) : cvD A m (.toInt .i64) (W32 x) = some (N64 x.toNat, A) := by
  have := x.isLt
  simp only [cvD, W32, N64]; rw [wrap_i64 (by omega)]
theorem cv_W32_N32 (x : BitVec 32) : cvD A m (.toInt .i32) (W32 x) = some (N32 (IntKind.i32.wrap x.toNat), A) := rfl
theorem cv_W64_N64 (x : BitVec 64) : cvD A m (.toInt .i64) (W64 x) = some (N64 (IntKind.i64.wrap x.toNat), A) := rfl
theorem cv_N32_N64 (n : Int) (h : -9223372036854775808 ≤ n ∧ n < 9223372036854775808) : cvD A m (.toInt .i64) (N32 n) = some (N64 n, A) := by
  simp only [cvD, N32, N64]; rw [wrap_i64 h]
theorem cv_N64_N32 (n : Int) : cvD A m (.toInt .i32) (N64 n) = some (N32 (IntKind.i32.wrap n), A) := rfl
theorem cv_W32_W64 (x : BitVec 32) : cvD A m (.toInt .u64) (W32 x) = some (W64 (BitVec.ofNat 64 x.toNat), A) := by
  have := x.isLt
  simp only [cvD, W32, W64, wrap_u64, BitVec.toNat_ofNat, Option.some.injEq, Prod.mk.injEq, D.int.injEq, true_and, and_true]; omega
end

theorem shl32w (x : BitVec 32) (m : BitVec 64) : runBin .shl (W32 x) (W64 m) = some (W32 (x <<< m.toNat)) := shl32 x _ _
theorem shr32w (x : BitVec 32) (m : BitVec 64) : runBin .shr (W32 x) (W64 m) = some (W32 (x >>> m.toNat)) := shr32 x _ _
theorem shl64w (x : BitVec 64) (m : BitVec 64) : runBin .shl (W64 x) (W64 m) = some (W64 (x <<< m.toNat)) := shl64 x _ _
theorem shr64w (x : BitVec 64) (m : BitVec 64) : runBin .shr (W64 x) (W64 m) = some (W64 (x >>> m.toNat)) := shr64 x _ _
theorem shl32n (x : BitVec 32) (m : Int) (h : 0 ≤ m) : runBin .shl (W32 x) (N64 m) = some (W32 (x <<< m.toNat)) := by
  have := shl32 x .i64 m.toNat
  rwa [Int.toNat_of_nonneg h] at this
theorem shr32n (x : BitVec 32) (m : Int) (h : 0 ≤ m) : runBin .shr (W32 x) (N64 m) = some (W32 (x >>> m.toNat)) := by
  have := shr32 x .i64 m.toNat
  rwa [Int.toNat_of_nonneg h] at this
theorem shr64n (x : BitVec 64) (m : Int) (h : 0 ≤ m) : runBin .shr (W64 x) (N64 m) = some (W64 (x >>> m.toNat)) := by
  have := shr64 x .i64 m.toNat
  rwa [Int.toNat_of_nonneg h] at this


theorem shl64n (x : BitVec 64) (m : Int) (h : 0 ≤ m) : runBin .shl (W64 x) (N64 m) = some (W64 (x <<< m.toNat)) := by
  have := shl64 x .i64 m.toNat
  rwa [Int.toNat_of_nonneg h] at this

end Ev

namespace Ev
open Go

/-- what each step of the plain machine is -/
theorem EV :
    (∀ (S : Nat → Option Fn) (ρ : List D) (A : St), runOps S [] ρ A = some (ρ, A)) ∧
    (∀ (S : Nat → Option Fn) (o : EOp) (r : List EOp) (ρ : List D) (A : St), runOps S (o :: r) ρ A = (match o.run S ρ A with | some (ρ', A') => runOps S r ρ' A' | none => none)) ∧
    (∀ (S : Nat → Option Fn) (t : Nat) (i : Ins) (ρ : List D) (A : St), EOp.run S ⟨some t, i, none⟩ ρ A = (match i.run S ρ A with | some (d, A') => some (ρ.set t d, A') | none => none)) ∧
    (∀ (S : Nat → Option Fn) (i : Ins) (ρ : List D) (A : St), EOp.run S ⟨none, i, none⟩ ρ A = (match i.run S ρ A with | some (_, A') => some (ρ, A') | none => none)) ∧
    (∀ (S : Nat → Option Fn) (t s : Nat) (want : Bool) (i : Ins) (ρ : List D) (A : St), EOp.run S ⟨some t, i, some (s, want)⟩ ρ A = (match ρ.getD s .undef with | .bool b => if b = want then (match i.run S ρ A with | some (d, A') => some (ρ.set t d, A') | none => none) else some (ρ.set t .undef, A) | .tup [] => some (ρ.set t .undef, A) | _ => none)) ∧
    (∀ (S : Nat → Option Fn) (s : Nat) (want : Bool) (i : Ins) (ρ : List D) (A : St), EOp.run S ⟨none, i, some (s, want)⟩ ρ A = (match ρ.getD s .undef with | .bool b => if b = want then (match i.run S ρ A with | some (_, A') => some (ρ, A') | none => none) else some (ρ, A) | .tup [] => some (ρ, A) | _ => none)) ∧
    (∀ (S : Nat → Option Fn) (n : Nat) (ρ : List D) (A : St), ECode.run S n .skip ρ A = some (.normal, ρ, A)) ∧
    (∀ (S : Nat → Option Fn) (n : Nat) (ρ : List D) (A : St) (ops : List EOp), ECode.run S n (.reg ops) ρ A = (match runOps S ops ρ A with | some (ρ', A') => some (.normal, ρ', A') | none => none)) ∧
    (∀ (S : Nat → Option Fn) (n : Nat) (ρ : List D) (A : St) (ops : List EOp) (ws : List (Nat × Nat)), ECode.run S n (.regD ops ws) ρ A = (match runOps S ops ρ A with | some (ρ', A') => some (.normal, ρ', A') | none => none)) ∧
    (∀ (S : Nat → Option Fn) (n : Nat) (ρ : List D) (A : St) (a b : ECode), ECode.run S n (.seq a b) ρ A = (match a.run S n ρ A with | some (.normal, ρ', A') => b.run S n ρ' A' | r => r)) ∧
    (∀ (S : Nat → Option Fn) (n : Nat) (ρ : List D) (A : St) (c : Opd) (a b : ECode), ECode.run S n (.cond c a b) ρ A = (match c.ev ρ with | .bool t => if t then a.run S n ρ A else b.run S n ρ A | _ => none)) ∧
    (∀ (S : Nat → Option Fn) (n : Nat) (ρ : List D) (A : St) (id : Nat) (c : ECode), ECode.run S n (.block id c) ρ A = (match c.run S n ρ A with | some (.exit id', ρ', A') => if id' = id then some (.normal, ρ', A') else some (.exit id', ρ', A') | r => r)) ∧
    (∀ (S : Nat → Option Fn) (n : Nat) (ρ : List D) (A : St) (c : ECode), ECode.run S n (.loop c) ρ A = rounds (c.run S n) n ρ A) ∧
    (∀ (S : Nat → Option Fn) (n : Nat) (ρ : List D) (A : St) (id : Nat), ECode.run S n (.exit id) ρ A = some (.exit id, ρ, A)) ∧
    (∀ (S : Nat → Option Fn) (n : Nat) (ρ : List D) (A : St), ECode.run S n .ret ρ A = some (.ret, ρ, A)) ∧
    (∀ (S : Nat → Option Fn) (n : Nat) (ρ : List D) (A : St) (g : Gh) (c : ECode), ECode.run S n (.gh g c) ρ A = (match g.run ρ A with | some (ρ', A') => c.run S n ρ' A' | none => none)) ∧
    (∀ (ρ : List D) (n : Nat), Opd.ev ρ (.t n) = ρ.getD n .undef) ∧
    (∀ (ρ : List D) (x : D), Opd.ev ρ (.d x) = x) ∧
    (∀ (S : Nat → Option Fn) (ρ : List D) (A : St) (x : Opd), Ins.run S ρ A (.mov x) = some (x.ev ρ, A)) ∧
    (∀ (S : Nat → Option Fn) (ρ : List D) (A : St) (x : Opd), Ins.run S ρ A (.nilc x) = (match nilcD (x.ev ρ) with | some d => some (d, A) | none => none)) ∧
    (∀ (S : Nat → Option Fn) (ρ : List D) (A : St) (c a b : Opd), Ins.run S ρ A (.pick c a b) = (match c.ev ρ with | .bool t => some (if t then a.ev ρ else b.ev ρ, A) | _ => none)) ∧
    (∀ (S : Nat → Option Fn) (ρ : List D) (A : St) (zs : List D), Ins.run S ρ A (.alloc zs) = some (A.push (.mem false zs))) ∧
    (∀ (S : Nat → Option Fn) (ρ : List D) (A : St) (x : Opd), Ins.run S ρ A (.box x) = (if (x.ev ρ).cells.all putCells.D.pc0 then some (A.push (.mem false (x.ev ρ).cells)) else none)) ∧
    (∀ (S : Nat → Option Fn) (ρ : List D) (A : St) (zs : List D) (parts : List (Nat × Nat × Opd)), Ins.run S ρ A (.build zs parts) = (match putCells zs (parts.map fun p => (p.1, p.2.1, (p.2.2).ev ρ)) with | some cs => some (.agg (cs.map D.er), A) | none => none)) ∧
    (∀ (S : Nat → Option Fn) (ρ : List D) (A : St) (m : Mode) (w : Nat) (zs : List D) (ln : Nat) (parts : List (Nat × Opd)), Ins.run S ρ A (.bsl m w zs ln parts) = (match putCells ((List.replicate ln zs).flatten) (parts.map fun p => (p.1 * w, w, (p.2).ev ρ)) with | some cs => if zs.length = w ∧ (cs.map D.er).all D.pc then some (A.newSl m .full w (chunks w ln (cs.map D.er))) else none | none => none)) ∧
    (∀ (S : Nat → Option Fn) (ρ : List D) (A : St) (w : Nat) (ag : Bool) (x : Opd), Ins.run S ρ A (.load w ag x) = (match loadD A w ag (x.ev ρ) with | some d => some (d, A) | none => none)) ∧
    (∀ (S : Nat → Option Fn) (ρ : List D) (A : St) (w : Nat) (x v : Opd), Ins.run S ρ A (.store w x v) = storeD A w (x.ev ρ) (v.ev ρ)) ∧
    (∀ (S : Nat → Option Fn) (ρ : List D) (A : St) (op : BinOp) (x y : Opd), Ins.run S ρ A (.bin op x y) = (match runBin op (x.ev ρ) (y.ev ρ) with | some d => some (d, A) | none => none)) ∧
    (∀ (S : Nat → Option Fn) (ρ : List D) (A : St) (ng : Bool) (x y : Opd), Ins.run S ρ A (.eqb ng x y) = (match x.ev ρ, y.ev ρ with | .bool a, .bool b => some (.bool (if ng then !(a == b) else (a == b)), A) | _, _ => none)) ∧
    (∀ (S : Nat → Option Fn) (ρ : List D) (A : St) (n : Nat) (ng : Bool) (x y : Opd), Ins.run S ρ A (.eqa n ng x y) = (match x.ev ρ, y.ev ρ with | .agg a, .agg b => if a.length = n ∧ b.length = n then (match eqCells a b with | some t => some (.bool (if ng then !t else t), A) | none => none) else none | _, _ => none)) ∧
    (∀ (S : Nat → Option Fn) (ρ : List D) (A : St) (ng : Bool) (x y : Opd), Ins.run S ρ A (.eqnil ng x y) = (match eqnilD ng (x.ev ρ) (y.ev ρ) with | some d => some (d, A) | none => none)) ∧
    (∀ (S : Nat → Option Fn) (ρ : List D) (A : St) (op : UnOp) (x : Opd), Ins.run S ρ A (.neg op x) = (match runNeg op (x.ev ρ) with | some d => some (d, A) | none => none)) ∧
    (∀ (S : Nat → Option Fn) (ρ : List D) (A : St) (m : Mode) (c : Cv) (x : Opd), Ins.run S ρ A (.cv m c x) = cvD A m c (x.ev ρ)) ∧
    (∀ (S : Nat → Option Fn) (ρ : List D) (A : St) (n : Nat) (x : Opd), Ins.run S ρ A (.arrp n x) = (match x.ev ρ with | .sl _ w els => if w = 1 ∧ 0 < n ∧ n ≤ els.length then some (.ref ((els.take n).flatten), A) else none | _ => none)) ∧
    (∀ (S : Nat → Option Fn) (ρ : List D) (A : St) (w : Nat) (x : Opd) (lo hi : Option Opd), Ins.run S ρ A (.slS w x lo hi) = (match sliceS w (x.ev ρ) (lo.map (·.ev ρ)) (hi.map (·.ev ρ)) with | some d => some (d, A) | none => none)) ∧
    (∀ (S : Nat → Option Fn) (ρ : List D) (A : St) (x : Opd) (lo hi : Option Opd), Ins.run S ρ A (.slT x lo hi) = (match x.ev ρ with | .str s => (match bounds s.length (lo.map (·.ev ρ)) (hi.map (·.ev ρ)) with | some (l, h) => some (.str ((s.take h).drop l), A) | none => none) | _ => none)) ∧
    (∀ (S : Nat → Option Fn) (ρ : List D) (A : St) (w n : Nat) (x : Opd) (lo hi : Option Opd), Ins.run S ρ A (.slA w n x lo hi) = (match sliceA A w n (x.ev ρ) (lo.map (·.ev ρ)) (hi.map (·.ev ρ)) with | some d => some (d, A) | none => none)) ∧
    (∀ (S : Nat → Option Fn) (ρ : List D) (A : St) (off : Nat) (x : Opd), Ins.run S ρ A (.fadr off x) = (match fadrD off (x.ev ρ) with | some d => some (d, A) | none => none)) ∧
    (∀ (S : Nat → Option Fn) (ρ : List D) (A : St) (w : Nat) (x i : Opd), Ins.run S ρ A (.iadrS w x i) = (match iaS w (x.ev ρ) (i.ev ρ) with | some d => some (d, A) | none => none)) ∧
    (∀ (S : Nat → Option Fn) (ρ : List D) (A : St) (w n : Nat) (x i : Opd), Ins.run S ρ A (.iadrA w n x i) = (match iaA w n (x.ev ρ) (i.ev ρ) with | some d => some (d, A) | none => none)) ∧
    (∀ (S : Nat → Option Fn) (ρ : List D) (A : St) (x i : Opd), Ins.run S ρ A (.idxT x i) = (match x.ev ρ, i.ev ρ with | .str s, .int _ i => if 0 ≤ i then (match s[i.toNat]? with | some b => some (.int .u8 b.toNat, A) | none => none) else none | _, _ => none)) ∧
    (∀ (S : Nat → Option Fn) (ρ : List D) (A : St) (i : Nat) (x : Opd), Ins.run S ρ A (.ext i x) = (match x.ev ρ with | .tup ds => (match ds[i]? with | some d => some (d, A) | none => none) | _ => none)) ∧
    (∀ (S : Nat → Option Fn) (ρ : List D) (A : St) (f : Nat) (args : List Opd) (sel : List Nat) (m : Mode), Ins.run S ρ A (.call f args sel m) = callD S A f (args.map (·.ev ρ)) sel m) ∧
    (∀ (S : Nat → Option Fn) (ρ : List D) (A : St) (x : Opd), Ins.run S ρ A (.len x) = (match lenD (x.ev ρ) with | some d => some (d, A) | none => none)) ∧
    (∀ (S : Nat → Option Fn) (ρ : List D) (A : St) (x : Opd), Ins.run S ρ A (.lenT x) = (match x.ev ρ with | .str s => some (.int .i64 s.length, A) | _ => none)) ∧
    (∀ (S : Nat → Option Fn) (ρ : List D) (A : St) (n : Nat), Ins.run S ρ A (.lenC n) = some (.int .i64 n, A)) ∧
    (∀ (S : Nat → Option Fn) (ρ : List D) (A : St) (st : Bool) (m : Mode) (w bs : Nat) (x y : Opd), Ins.run S ρ A (.app st m w bs x y) = appD A st m w bs (x.ev ρ) (y.ev ρ)) ∧
    (∀ (S : Nat → Option Fn) (ρ : List D) (A : St) (w : Nat) (x y : Opd), Ins.run S ρ A (.copyB w x y) = copyD A w (x.ev ρ) (y.ev ρ)) ∧
    (∀ (S : Nat → Option Fn) (ρ : List D) (A : St) (mx : Bool) (a : Opd) (r : List Opd), Ins.run S ρ A (.mm mx (a :: r)) = (match mmD mx (a.ev ρ) (r.map (·.ev ρ)) with | some d => some (d, A) | none => none)) ∧
    (∀ (S : Nat → Option Fn) (ρ : List D) (A : St) (m : Mode) (w bs : Nat) (zs : List D) (l : Opd), Ins.run S ρ A (.mk m w bs zs l) = (match l.ev ρ with | .int _ n => if 0 ≤ n ∧ n * bs ≤ 140737488355328 ∧ n < 9223372036854775808 ∧ zs.length = w ∧ zs.all D.pc then some (A.newSl m .full w (List.replicate n.toNat zs)) else none | _ => none)) ∧
    (∀ (S : Nat → Option Fn) (ρ : List D) (A : St) (x : Opd), Ins.run S ρ A (.rng x) = (match x.ev ρ with | .str s => some (A.push (.iter s 0)) | _ => none)) := by
  refine ⟨?_, ?_, ?_, ?_, ?_, ?_, ?_, ?_, ?_, ?_, ?_, ?_, ?_, ?_, ?_, ?_, ?_, ?_, ?_, ?_, ?_, ?_, ?_, ?_, ?_, ?_, ?_, ?_, ?_, ?_, ?_, ?_, ?_, ?_, ?_, ?_, ?_, ?_, ?_, ?_, ?_, ?_, ?_, ?_, ?_, ?_, ?_, ?_, ?_, ?_, ?_⟩ <;> intros <;> rfl

end Ev

namespace Ev
open Go

/-- the cells of these bytes -/
def bytesC (l : List UInt8) : List D := l.map B8

theorem bytesD_eq (l : List UInt8) : bytesD l = l.map fun b => [B8 b] := rfl

theorem byteD_eq (b : UInt8) : byteD b = [B8 b] := rfl

theorem bytesC_length (l : List UInt8) : (bytesC l).length = l.length := by simp [bytesC]
theorem bytesD_length (l : List UInt8) : (bytesD l).length = l.length := by simp [bytesD]
theorem bytesD_get (l : List UInt8) (i : Nat) : (bytesD l)[i]? = (l[i]?).map fun b => [B8 b] := by simp only [bytesD, List.getElem?_map]; rfl
theorem bytesC_get (l : List UInt8) (i : Nat) : (bytesC l)[i]? = (l[i]?).map B8 := by simp [bytesC]
theorem bytesD_append (l r : List UInt8) : bytesD l ++ bytesD r = bytesD (l ++ r) := by simp [bytesD]
theorem bytesD_take (l : List UInt8) (n : Nat) : (bytesD l).take n = bytesD (l.take n) := by simp [bytesD, List.map_take]
theorem bytesD_drop (l : List UInt8) (n : Nat) : (bytesD l).drop n = bytesD (l.drop n) := by simp [bytesD, List.map_drop]
theorem bytesD_nil : bytesD [] = [] := rfl
theorem bytesD_inj {a b : List UInt8} (h : bytesD a = bytesD b) : a = b := by
  have : a.map (fun c => D.int .u8 c.toNat) = b.map (fun c => D.int .u8 c.toNat) := by
    have := congrArg List.flatten h
    rwa [bytesD_flatten, bytesD_flatten] at this
  refine List.map_inj_right (fun x y e => ?_) |>.1 this
  simp only [D.int.injEq, true_and] at e
  exact UInt8.toNat_inj.1 (by omega)
theorem bytesC_flat (l : List UInt8) : (bytesD l).flatten = bytesC l := bytesD_flatten l
theorem bytesD_chunks (l : List UInt8) : chunks 1 l.length (bytesC l) = bytesD l := by
  induction l with
  | nil => rfl
  | cons b l ih => simp only [List.length_cons, bytesC, List.map_cons, chunks, bytesD] at ih ⊢; simp [ih, byteD_eq, bytesC]
theorem pc_bytesC (l : List UInt8) : (bytesC l).all D.pc = true := by simp [bytesC, B8, D.pc]
theorem pc0_bytesC (l : List UInt8) : (bytesC l).all putCells.D.pc0 = true := by simp [bytesC, B8, putCells.D.pc0]
theorem pc_bytesD (l : List UInt8) : (bytesD l).all (fun el => el.all D.pc) = true := by simp [bytesD, byteD_eq, B8, D.pc]
theorem er_bytesC (l : List UInt8) : (bytesC l).map D.er = bytesC l := by simp [bytesC, B8, D.er]
theorem nm_bytesC (l : List UInt8) : nmL (bytesC l) = bytesC l := by rw [nmL_map]; simp [bytesC, B8, D.nm]
theorem nm_bytesD (l : List UInt8) : nmLL (bytesD l) = bytesD l := by
  rw [nmLL_map]; simp only [bytesD, List.map_map]
  exact List.map_congr_left fun b _ => by simp [byteD_eq, nmL, B8, D.nm]

/-- bytes out of cells -/
def unC : List D → Option (List UInt8)
  | [] => some []
  | .int .u8 n :: r => if 0 ≤ n ∧ n < 256 then (unC r).map (UInt8.ofNat n.toNat :: ·) else none
  | _ :: _ => none
theorem unC_bytesC (l : List UInt8) : unC (bytesC l) = some l := by
  induction l with
  | nil => rfl
  | cons b l ih =>
    have := b.toNat_lt
    simp only [bytesC, List.map_cons, B8, unC] at ih ⊢
    rw [if_pos ⟨by omega, by omega⟩, ih]; simp
theorem of_unC : ∀ {ds : List D} {l : List UInt8}, unC ds = some l → ds = bytesC l
  | [], l, h => by simp [unC] at h; subst h; rfl
  | d :: r, l, h => by
    unfold unC at h
    split at h
    · rename_i e; cases e
    · rename_i n r' e
      cases e
      split at h
      · rename_i hn
        simp only [Option.map_eq_some_iff] at h
        obtain ⟨l', h', rfl⟩ := h
        rw [of_unC h']
        simp only [bytesC, List.map_cons, List.cons.injEq, and_true, B8, UInt8.toNat_ofNat', D.int.injEq, true_and]
        omega
      · cases h
    · cases h

/-- bytes out of a slice's elements -/
def unB : List (List D) → Option (List UInt8)
  | [] => some []
  | [d] :: r => (unC [d]).bind fun x => (unB r).map (x ++ ·)
  | _ :: _ => none
theorem unB_bytesD (l : List UInt8) : unB (bytesD l) = some l := by
  induction l with
  | nil => rfl
  | cons b l ih =>
    simp only [bytesD, List.map_cons] at ih ⊢
    rw [byteD_eq, unB]
    have := unC_bytesC [b]
    simp only [bytesC, List.map_cons, List.map_nil] at this
    rw [this]; simp [ih]
theorem of_unB : ∀ {ds : List (List D)} {l : List UInt8}, unB ds = some l → ds = bytesD l
  | [], l, h => by simp [unB] at h; subst h; rfl
  | e :: r, l, h => by
    unfold unB at h
    split at h
    · rename_i e; cases e
    · rename_i d r' e
      cases e
      simp only [Option.bind_eq_some_iff, Option.map_eq_some_iff] at h
      obtain ⟨x, hx, l', hl', rfl⟩ := h
      have h1 := of_unC hx
      rw [of_unB hl']
      match x, h1 with
      | [b], h1 => simp only [bytesC, List.map_cons, List.map_nil, List.cons.injEq, and_true] at h1; rw [h1]; rfl
      | [], h1 => simp [bytesC] at h1
      | _ :: _ :: _, h1 => simp [bytesC] at h1
    · cases h

-- ------------------------------------------------------------------ single steps
theorem iaA_ptr (w n j off : Nat) (i : Int) : iaA w n (.ptr j off) (N64 i) = if 0 ≤ i ∧ i.toNat < n then some (.ptr j (off + i.toNat * w)) else none := by
  show (if 0 ≤ i ∧ i < n then _ else _) = _
  by_cases h : 0 ≤ i ∧ i < n
  · rw [if_pos h, if_pos (by omega)]
  · rw [if_neg h, if_neg (by omega)]
theorem iaA_ref (w n : Nat) (ds : List D) (i : Int) : iaA w n (.ref ds) (N64 i) = if 0 ≤ i ∧ i.toNat < n then (if i.toNat * w ≤ ds.length then some (.ref (ds.drop (i.toNat * w))) else none) else none := by
  show (if 0 ≤ i ∧ i < n then _ else _) = _
  by_cases h : 0 ≤ i ∧ i < n
  · rw [if_pos h, if_pos (c := 0 ≤ i ∧ i.toNat < n) (by omega)]
  · rw [if_neg h, if_neg (c := 0 ≤ i ∧ i.toNat < n) (by omega)]
theorem DV :
    (∀ (w : Nat) (o : Own) (w' : Nat) (els : List (List D)) (i : Int), iaS w (.sl o w' els) (N64 i) = if 0 ≤ i then (match els[i.toNat]? with | some el => if el.length = w then some (.ref el) else none | none => none) else none) ∧
    (∀ (w j off w' n : Nat) (i : Int), iaS w (.loc j off w' n) (N64 i) = if 0 ≤ i then (if w' = w ∧ i.toNat < n then some (.ptr j (off + i.toNat * w)) else none) else none) ∧
    (∀ (w n j off : Nat) (i : Int), iaA w n (.ptr j off) (N64 i) = if 0 ≤ i ∧ i.toNat < n then some (.ptr j (off + i.toNat * w)) else none) ∧
    (∀ (w n : Nat) (ds : List D) (i : Int), iaA w n (.ref ds) (N64 i) = if 0 ≤ i ∧ i.toNat < n then (if i.toNat * w ≤ ds.length then some (.ref (ds.drop (i.toNat * w))) else none) else none) ∧
    (∀ (A : St) (w : Nat) (ds : List D), loadD A w false (.ref ds) = ds[0]?) ∧
    (∀ (A : St) (w : Nat) (ds : List D), loadD A w true (.ref ds) = if w ≤ ds.length then some (.agg (ds.take w)) else none) ∧
    (∀ (A : St) (w j off : Nat), loadD A w false (.ptr j off) = match A.blks[j]? with | some (.mem _ cells) => cells[off]? | _ => none) ∧
    (∀ (A : St) (w j off : Nat), loadD A w true (.ptr j off) = match A.blks[j]? with | some (.mem _ cells) => if off + w ≤ cells.length then some (.agg (((cells.drop off).take w).map D.er)) else none | _ => none) ∧
    (∀ (A : St) (w j off : Nat) (v : D), storeD A w (.ptr j off) v = match A.blks[j]? with | some (.mem false cells) => if v.cells.length = w ∧ off + w ≤ cells.length ∧ v.cells.all putCells.D.pc0 then some (.undef, { A with blks := A.blks.set j (.mem false (cells.take off ++ v.cells ++ cells.drop (off + w))) }) else none | _ => none) ∧
    (∀ (j off : Nat), nilcD (.ptr j off) = some (.ptr j off)) ∧ (∀ (ds : List D), nilcD (.ref ds) = some (.ref ds)) ∧
    (∀ (off j o : Nat), fadrD off (.ptr j o) = some (.ptr j (o + off))) ∧ (∀ (off : Nat) (ds : List D), fadrD off (.ref ds) = some (.ref (ds.drop off))) ∧
    (∀ (o : Own) (w : Nat) (els : List (List D)), lenD (.sl o w els) = some (N64 els.length)) ∧ (∀ (j off w n : Nat), lenD (.loc j off w n) = some (N64 n)) ∧
    (∀ (b : Bool), runNeg .not (.bool b) = some (.bool (!b))) ∧
    (∀ (x : BitVec 32), D.cells (W32 x) = [W32 x]) ∧ (∀ (x : BitVec 64), D.cells (W64 x) = [W64 x]) ∧ (∀ (x : UInt8), D.cells (B8 x) = [B8 x]) ∧ (∀ (x : Int), D.cells (N64 x) = [N64 x]) ∧ (∀ (x : Int), D.cells (N32 x) = [N32 x]) ∧
    (∀ (b : Bool), D.cells (.bool b) = [.bool b]) ∧ (∀ s, D.cells (.str s) = [.str s]) ∧ (∀ o w els, D.cells (.sl o w els) = [.sl o w els]) ∧ (∀ ds, D.cells (.agg ds) = ds) ∧
    (∀ (x : BitVec 32), putCells.D.pc0 (W32 x) = true) ∧ (∀ (x : BitVec 64), putCells.D.pc0 (W64 x) = true) ∧ (∀ (x : UInt8), putCells.D.pc0 (B8 x) = true) ∧ (∀ (x : Int), putCells.D.pc0 (N64 x) = true) ∧ (∀ (x : Int), putCells.D.pc0 (N32 x) = true) ∧
    (∀ (b : Bool), putCells.D.pc0 (.bool b) = true) ∧ (∀ s, putCells.D.pc0 (.str s) = true) ∧ (∀ w els, putCells.D.pc0 (.sl .any w els) = true) ∧ (∀ w els, putCells.D.pc0 (.sl .full w els) = true) ∧ (∀ w els, putCells.D.pc0 (.sl .nilk w els) = true) ∧ (∀ k e w els, putCells.D.pc0 (.sl (.tok k e) w els) = true) ∧
    (∀ (x : BitVec 32), D.pc (W32 x) = true) ∧ (∀ (x : BitVec 64), D.pc (W64 x) = true) ∧ (∀ (x : UInt8), D.pc (B8 x) = true) ∧ (∀ (x : Int), D.pc (N64 x) = true) ∧ (∀ (x : Int), D.pc (N32 x) = true) ∧
    (∀ (b : Bool), D.pc (.bool b) = true) ∧ (∀ s, D.pc (.str s) = true) ∧ (∀ w els, D.pc (.sl .any w els) = true) ∧ (∀ w els, D.pc (.sl .full w els) = true) ∧ (∀ w els, D.pc (.sl .nilk w els) = true) ∧
    (∀ (x : BitVec 32), D.er (W32 x) = W32 x) ∧ (∀ (x : BitVec 64), D.er (W64 x) = W64 x) ∧ (∀ (x : UInt8), D.er (B8 x) = B8 x) ∧ (∀ (x : Int), D.er (N64 x) = N64 x) ∧ (∀ (x : Int), D.er (N32 x) = N32 x) ∧
    (∀ (b : Bool), D.er (.bool b) = .bool b) ∧ (∀ s, D.er (.str s) = .str s) ∧ (∀ w els, D.er (.sl .any w els) = .sl .any w els) ∧ (∀ w els, D.er (.sl .full w els) = .sl .full w els) ∧ (∀ w els, D.er (.sl .nilk w els) = .sl .nilk w els) ∧ (∀ k e w els, D.er (.sl (.tok k e) w els) = .sl .any w els) ∧ (∀ ds, D.er (.agg ds) = .agg ds) ∧
    (∀ (x : BitVec 32), D.nm (W32 x) = W32 x) ∧ (∀ (x : BitVec 64), D.nm (W64 x) = W64 x) ∧ (∀ (x : UInt8), D.nm (B8 x) = B8 x) ∧ (∀ (x : Int), D.nm (N64 x) = N64 x) ∧ (∀ (x : Int), D.nm (N32 x) = N32 x) ∧
    (∀ (b : Bool), D.nm (.bool b) = .bool b) ∧ (∀ s, D.nm (.str s) = .str s) ∧ (∀ w els, D.nm (.sl .any w els) = .sl .any w (nmLL els)) ∧ (∀ w els, D.nm (.sl .full w els) = .sl .any w (nmLL els)) ∧ (∀ w els, D.nm (.sl .nilk w els) = .sl .any w (nmLL els)) ∧ (∀ w els, D.nm (.sl .rm w els) = .sl .rm w els) ∧ (∀ w els, D.nm (.sl .fresh w els) = .sl .fresh w els) ∧ (∀ ds, D.nm (.agg ds) = .agg (nmL ds)) ∧
    (∀ j off, D.nm (.ptr j off) = .ptr j off) ∧ (∀ j off w n, D.nm (.loc j off w n) = .loc j off w n) ∧ (nmL [] = []) ∧ (∀ d r, nmL (d :: r) = d.nm :: nmL r) ∧ (nmLL [] = []) ∧ (∀ d r, nmLL (d :: r) = nmL d :: nmLL r) ∧
    (∀ ds, D.nmR (.tup ds) = .tup (nmL ds)) ∧ (∀ (x : BitVec 32), D.nmR (W32 x) = W32 x) ∧ (∀ (x : BitVec 64), D.nmR (W64 x) = W64 x) ∧ (∀ (x : UInt8), D.nmR (B8 x) = B8 x) ∧ (∀ (x : Int), D.nmR (N64 x) = N64 x) ∧ (∀ (b : Bool), D.nmR (.bool b) = .bool b) ∧ (∀ s, D.nmR (.str s) = .str s) ∧ (∀ o w els, D.nmR (.sl o w els) = D.nm (.sl o w els)) ∧ (∀ ds, D.nmR (.agg ds) = .agg (nmL ds)) ∧
    (∀ fr cells, Blk.nm (.mem fr cells) = .mem fr (cells.map D.nm)) := by
  (repeat' apply And.intro) <;> intros <;> first | exact iaA_ptr .. | exact iaA_ref .. | rfl | simp [D.nm, W32, W64, B8, N64, N32, nmL, nmLL]

end Ev

namespace Ev
open Go

class Enc (α : Type) where
  enc : α → D
  inj : ∀ a b, enc a = enc b → a = b

/-- what a plain value stands for (by choice: nothing is reckoned) -/
noncomputable def Enc.dec {α : Type} [Enc α] (d : D) : Option α := by
  classical exact if h : ∃ a : α, d = Enc.enc a then some h.choose else none

theorem Enc.dec_enc {α : Type} [Enc α] (a : α) : Enc.dec (Enc.enc a) = some a := by
  unfold Enc.dec
  have h : ∃ b : α, Enc.enc a = Enc.enc b := ⟨a, rfl⟩
  rw [dif_pos h]
  exact congrArg some (Enc.inj _ _ h.choose_spec).symm

theorem Enc.enc_dec {α : Type} [Enc α] (d : D) (a : α) (h : Enc.dec d = some a) : d = Enc.enc a := by
  unfold Enc.dec at h
  split at h
  · rename_i h0
    cases h; exact h0.choose_spec
  · cases h

structure Str where
  s : List UInt8
/-- a slice of bytes -/
structure Bs where
  b : List UInt8
/-- an array of bytes -/
structure Ar where
  b : List UInt8

/-- a rune -/
structure Rn where
  n : Int

theorem bytesC_inj {a b : List UInt8} (h : bytesC a = bytesC b) : a = b := by
  have := congrArg unC h
  rw [unC_bytesC, unC_bytesC] at this
  exact Option.some.inj this

instance : Enc (BitVec 32) := ⟨W32, fun a b h => by simp only [W32, D.int.injEq, true_and] at h; exact BitVec.eq_of_toNat_eq (by omega)⟩
instance : Enc (BitVec 64) := ⟨W64, fun a b h => by simp only [W64, D.int.injEq, true_and] at h; exact BitVec.eq_of_toNat_eq (by omega)⟩
instance : Enc UInt8 := ⟨B8, fun a b h => by simp only [B8, D.int.injEq, true_and] at h; exact UInt8.toNat_inj.1 (by omega)⟩
instance : Enc Int := ⟨N64, fun a b h => by simp only [N64, D.int.injEq, true_and] at h; exact h⟩
instance : Enc Rn := ⟨fun r => N32 r.n, fun a b h => by obtain ⟨a⟩ := a; obtain ⟨b⟩ := b; simp only [N32, D.int.injEq, true_and] at h; rw [h]⟩
instance : Enc Bool := ⟨.bool, fun a b h => by simpa using h⟩
instance : Enc Str := ⟨fun x => .str x.s, fun a b h => by obtain ⟨a⟩ := a; obtain ⟨b⟩ := b; simp only [D.str.injEq] at h; rw [h]⟩
instance : Enc Bs := ⟨fun x => .sl .any 1 (bytesD x.b), fun a b h => by obtain ⟨a⟩ := a; obtain ⟨b⟩ := b; simp only [D.sl.injEq, true_and] at h; rw [bytesD_inj h]⟩
instance : Enc Ar := ⟨fun x => .agg (bytesC x.b), fun a b h => by obtain ⟨a⟩ := a; obtain ⟨b⟩ := b; simp only [D.agg.injEq] at h; rw [bytesC_inj h]⟩

section
variable {α β γ δ ε : Type} [Enc α] [Enc β] [Enc γ] [Enc δ] [Enc ε]
open Enc

noncomputable def fn0 (g : Option D) : Fn := fun args B => match args, B with | [], [] => g.map fun d => (d, []) | _, _ => none
noncomputable def fn1 (g : α → Option D) : Fn := fun args B => match args, B with | [x], [] => (dec x).bind fun a => (g a).map fun d => (d, []) | _, _ => none
noncomputable def fn2 (g : α → β → Option D) : Fn := fun args B => match args, B with | [x, y], [] => (dec x).bind fun a => (dec y).bind fun b => (g a b).map fun d => (d, []) | _, _ => none
noncomputable def fn3 (g : α → β → γ → Option D) : Fn := fun args B => match args, B with | [x, y, z], [] => (dec x).bind fun a => (dec y).bind fun b => (dec z).bind fun c => (g a b c).map fun d => (d, []) | _, _ => none
noncomputable def fn4 (g : α → β → γ → δ → Option D) : Fn := fun args B => match args, B with | [x, y, z, u], [] => (dec x).bind fun a => (dec y).bind fun b => (dec z).bind fun c => (dec u).bind fun e => (g a b c e).map fun d => (d, []) | _, _ => none

/-- an argument as the callee has it -/
def argN (d : D) : Option D := (d.ren []).map D.nm

variable {P : Program} {S : Nat → Option Fn} {f : Nat}

theorem callL {G : Fn} (hS : S f = some (lift G)) (A : St) (args : List D) (m : Mode) :
    callD S A f args [] m = (args.mapM argN).bind fun xs => (G xs []).bind fun r => if r.2 = [] then some (takeResT m A r.1) else none := by
  have h1 : ∀ l : List D, l.mapM argN = (l.mapM (D.ren [])).map (·.map D.nm) := by
    intro l
    induction l with
    | nil => rfl
    | cons d l ih =>
      simp only [List.mapM_cons, ih, argN]
      cases d.ren [] with
      | none => rfl
      | some x => cases l.mapM (D.ren []) with
        | none => rfl
        | some y => rfl
  unfold callD
  rw [hS, h1]
  simp only [List.mapM_nil, pure]
  cases args.mapM (D.ren []) with
  | none => rfl
  | some xs =>
    simp only [List.nodup_nil, List.all_nil, and_self, if_true, Option.map_some, Option.bind_some, lift, List.map_nil]
    cases G (xs.map D.nm) [] with
    | none => rfl
    | some r =>
      obtain ⟨r, B'⟩ := r
      cases B' with
      | nil => simp [setBlks]
      | cons b B' => simp

theorem call0 {g : Option D} (hS : S f = some (lift (fn0 g))) (A : St) (m : Mode) : callD S A f [] [] m = g.map (takeResT m A) := by
  rw [callL hS]; simp only [List.mapM_nil, pure, Option.bind_some, fn0]; cases g <;> simp
theorem call1 {g : α → Option D} (hS : S f = some (lift (fn1 g))) (A : St) (x : D) (m : Mode) : callD S A f [x] [] m = (argN x).bind fun x => (dec x).bind fun a => (g a).map (takeResT m A) := by
  rw [callL hS]; simp only [List.mapM_cons, List.mapM_nil, pure, bind]
  cases argN x with
  | none => rfl
  | some x => simp only [Option.bind_some, fn1]; cases (dec x : Option α) with
    | none => rfl
    | some a => simp only [Option.bind_some]; cases g a <;> simp
theorem call2 {g : α → β → Option D} (hS : S f = some (lift (fn2 g))) (A : St) (x y : D) (m : Mode) : callD S A f [x, y] [] m = (argN x).bind fun x => (argN y).bind fun y => (dec x).bind fun a => (dec y).bind fun b => (g a b).map (takeResT m A) := by
  rw [callL hS]; simp only [List.mapM_cons, List.mapM_nil, pure, bind]
  cases argN x with
  | none => rfl
  | some x => cases argN y with
    | none => rfl
    | some y => simp only [Option.bind_some, fn2]; cases (dec x : Option α) with
      | none => rfl
      | some a => cases (dec y : Option β) with
        | none => rfl
        | some b => simp only [Option.bind_some]; cases g a b <;> simp
theorem call3 {g : α → β → γ → Option D} (hS : S f = some (lift (fn3 g))) (A : St) (x y z : D) (m : Mode) : callD S A f [x, y, z] [] m = (argN x).bind fun x => (argN y).bind fun y => (argN z).bind fun z => (dec x).bind fun a => (dec y).bind fun b => (dec z).bind fun c => (g a b c).map (takeResT m A) := by
  rw [callL hS]; simp only [List.mapM_cons, List.mapM_nil, pure, bind]
  cases argN x with
  | none => rfl
  | some x => cases argN y with
    | none => rfl
    | some y => cases argN z with
      | none => rfl
      | some z => simp only [Option.bind_some, fn3]; cases (dec x : Option α) with
        | none => rfl
        | some a => cases (dec y : Option β) with
          | none => rfl
          | some b => cases (dec z : Option γ) with
            | none => rfl
            | some c => simp only [Option.bind_some]; cases g a b c <;> simp

-- ------------------------------------------------------------------ contracts
section
variable (hm : P.follows .mixedOrders = true) {fn : Func} (hf : P.funcs[f]? = some fn) {e : EFn} (hok : okFn P fn e = true) (hC : ∀ f', f' ∈ calleesOf e.body → Con P S f')
include hm hf hok hC
theorem con0 {g : Option D} (hS : S f = some (lift (fn0 g))) (h : ∀ r, g = some r → ∃ n r0, e.run S n [] [] = some (r0, []) ∧ r0.nmR = r) : Con P S f := by
  refine con_lift hm hf hok hC hS fun args B r B' hr => ?_
  unfold fn0 at hr
  split at hr
  · simp only [Option.map_eq_some_iff, Prod.mk.injEq] at hr
    obtain ⟨d, hd, rfl, rfl⟩ := hr
    obtain ⟨n, r0, h1, h2⟩ := h d hd
    exact ⟨n, r0, [], h1, h2, rfl⟩
  · cases hr
theorem con1 {g : α → Option D} (hS : S f = some (lift (fn1 g))) (h : ∀ a r, g a = some r → ∃ n r0, e.run S n [enc a] [] = some (r0, []) ∧ r0.nmR = r) : Con P S f := by
  refine con_lift hm hf hok hC hS fun args B r B' hr => ?_
  unfold fn1 at hr
  split at hr
  · simp only [Option.bind_eq_some_iff, Option.map_eq_some_iff, Prod.mk.injEq] at hr
    obtain ⟨a, ha, d, hd, rfl, rfl⟩ := hr
    obtain ⟨n, r0, h1, h2⟩ := h a d hd
    rw [enc_dec _ _ ha]
    exact ⟨n, r0, [], h1, h2, rfl⟩
  · cases hr
theorem con2 {g : α → β → Option D} (hS : S f = some (lift (fn2 g))) (h : ∀ a b r, g a b = some r → ∃ n r0, e.run S n [enc a, enc b] [] = some (r0, []) ∧ r0.nmR = r) : Con P S f := by
  refine con_lift hm hf hok hC hS fun args B r B' hr => ?_
  unfold fn2 at hr
  split at hr
  · simp only [Option.bind_eq_some_iff, Option.map_eq_some_iff, Prod.mk.injEq] at hr
    obtain ⟨a, ha, b, hb, d, hd, rfl, rfl⟩ := hr
    obtain ⟨n, r0, h1, h2⟩ := h a b d hd
    rw [enc_dec _ _ ha, enc_dec _ _ hb]
    exact ⟨n, r0, [], h1, h2, rfl⟩
  · cases hr
theorem con3 {g : α → β → γ → Option D} (hS : S f = some (lift (fn3 g))) (h : ∀ a b c r, g a b c = some r → ∃ n r0, e.run S n [enc a, enc b, enc c] [] = some (r0, []) ∧ r0.nmR = r) : Con P S f := by
  refine con_lift hm hf hok hC hS fun args B r B' hr => ?_
  unfold fn3 at hr
  split at hr
  · simp only [Option.bind_eq_some_iff, Option.map_eq_some_iff, Prod.mk.injEq] at hr
    obtain ⟨a, ha, b, hb, c, hc, d, hd, rfl, rfl⟩ := hr
    obtain ⟨n, r0, h1, h2⟩ := h a b c d hd
    rw [enc_dec _ _ ha, enc_dec _ _ hb, enc_dec _ _ hc]
    exact ⟨n, r0, [], h1, h2, rfl⟩
  · cases hr
end
end

theorem argN_ar (l : List UInt8) : argN (.agg (bytesC l)) = some (.agg (bytesC l)) := by
  have h : (D.agg (bytesC l)).er.pv = true := pc_bytesC l
  show (if (D.agg (bytesC l)).er.pv then some (D.agg (bytesC l)).er else none).map D.nm = _
  rw [if_pos h]
  simp [D.er, D.nm, nm_bytesC]

-- ------------------------------------------------------------------ arguments and results
theorem AV :
    (∀ x : BitVec 32, argN (W32 x) = some (W32 x)) ∧
    (∀ x : BitVec 64, argN (W64 x) = some (W64 x)) ∧
    (∀ x : UInt8, argN (B8 x) = some (B8 x)) ∧
    (∀ x : Int, argN (N64 x) = some (N64 x)) ∧
    (∀ x : Int, argN (N32 x) = some (N32 x)) ∧
    (∀ b : Bool, argN (.bool b) = some (.bool b)) ∧
    (∀ s, argN (.str s) = some (.str s)) ∧
    (∀ l, argN (.sl .any 1 (bytesD l)) = some (.sl .any 1 (bytesD l))) ∧
    (∀ l, argN (.sl .full 1 (bytesD l)) = some (.sl .any 1 (bytesD l))) ∧
    (∀ k e l, argN (.sl (.tok k e) 1 (bytesD l)) = some (.sl .any 1 (bytesD l))) ∧
    (∀ w, argN (.sl .nilk w []) = some (.sl .any w [])) ∧
    (∀ l, argN (.agg (bytesC l)) = some (.agg (bytesC l))) ∧
    (∀ x : BitVec 32, (Enc.dec (W32 x) : Option (BitVec 32)) = some x) ∧
    (∀ x : BitVec 64, (Enc.dec (W64 x) : Option (BitVec 64)) = some x) ∧
    (∀ x : UInt8, (Enc.dec (B8 x) : Option (UInt8)) = some x) ∧
    (∀ x : Int, (Enc.dec (N64 x) : Option Int) = some x) ∧
    (∀ x : Int, (Enc.dec (N32 x) : Option Rn) = some ⟨x⟩) ∧
    (∀ b : Bool, (Enc.dec (.bool b) : Option Bool) = some b) ∧
    (∀ s, (Enc.dec (.str s) : Option Str) = some ⟨s⟩) ∧
    (∀ l, (Enc.dec (.sl .any 1 (bytesD l)) : Option Bs) = some ⟨l⟩) ∧
    (∀ l, (Enc.dec (.agg (bytesC l)) : Option Ar) = some ⟨l⟩) ∧
    ((Enc.dec (.sl .any 1 []) : Option Bs) = some ⟨[]⟩) ∧
    (∀ x : BitVec 32, Enc.enc x = W32 x) ∧
    (∀ x : BitVec 64, Enc.enc x = W64 x) ∧
    (∀ x : UInt8, Enc.enc x = B8 x) ∧
    (∀ x : Int, Enc.enc x = N64 x) ∧
    (∀ x : Rn, Enc.enc x = N32 x.n) ∧
    (∀ b : Bool, Enc.enc b = .bool b) ∧
    (∀ s : Str, Enc.enc s = .str s.s) ∧
    (∀ b : Bs, Enc.enc b = .sl .any 1 (bytesD b.b)) ∧
    (∀ b : Ar, Enc.enc b = .agg (bytesC b.b)) ∧
    (∀ m A ds, takeResT m A (.tup ds) = (.tup (takeRess m A ds).1, (takeRess m A ds).2)) ∧
    (∀ m A (x : BitVec 32), takeResT m A (W32 x) = (W32 x, A)) ∧
    (∀ m A (x : BitVec 64), takeResT m A (W64 x) = (W64 x, A)) ∧
    (∀ m A (x : UInt8), takeResT m A (B8 x) = (B8 x, A)) ∧
    (∀ m A (x : Int), takeResT m A (N64 x) = (N64 x, A)) ∧
    (∀ m A b, takeResT m A (.bool b) = (.bool b, A)) ∧
    (∀ m A b, takeResT m A (.str b) = (.str b, A)) ∧
    (∀ m A b, takeResT m A (.agg b) = (.agg b, A)) ∧
    (∀ m A w b, takeResT m A (.sl .any w b) = (.sl .any w b, A)) ∧
    (∀ A w els, takeResT .any A (.sl .rm w els) = (.sl .any w els, A)) ∧
    (∀ A w els, takeResT .tok A (.sl .rm w els) = (.sl (.tok A.toks.length els.length) w els, { A with toks := A.toks ++ [els.length] })) ∧
    (∀ A w els, takeResT .any A (.sl .fresh w els) = (.sl .any w els, A)) ∧
    (∀ A w els, takeResT .tok A (.sl .fresh w els) = (.sl (.tok A.toks.length els.length) w els, { A with toks := A.toks ++ [els.length] })) ∧
    (∀ A w els, takeResT .trk A (.sl .fresh w els) = (.loc A.blks.length 0 w els.length, { A with blks := A.blks ++ [.mem false els.flatten] })) :=
  ⟨fun _ => rfl,
   fun _ => rfl,
   fun _ => rfl,
   fun _ => rfl,
   fun _ => rfl,
   fun _ => rfl,
   fun _ => rfl,
   fun l => by simp [argN, D.ren, D.er, D.pv, D.pc, D.nm, nm_bytesD],
   fun l => by simp [argN, D.ren, D.er, D.pv, D.pc, D.nm, nm_bytesD],
   fun k e l => by simp [argN, D.ren, D.er, D.pv, D.pc, D.nm, nm_bytesD],
   fun _ => rfl,
   argN_ar,
   fun x => Enc.dec_enc x,
   fun x => Enc.dec_enc x,
   fun x => Enc.dec_enc x,
   fun x => Enc.dec_enc x,
   fun x => Enc.dec_enc (Rn.mk x),
   fun x => Enc.dec_enc x,
   fun x => Enc.dec_enc (Str.mk x),
   fun l => Enc.dec_enc (Bs.mk l),
   fun l => Enc.dec_enc (Ar.mk l),
   Enc.dec_enc (Bs.mk []),
   fun _ => rfl,
   fun _ => rfl,
   fun _ => rfl,
   fun _ => rfl,
   fun _ => rfl,
   fun _ => rfl,
   fun _ => rfl,
   fun _ => rfl,
   fun _ => rfl,
   fun _ _ _ => rfl,
   fun _ _ _ => rfl,
   fun _ _ _ => rfl,
   fun _ _ _ => rfl,
   fun _ _ _ => rfl,
   fun _ _ _ => rfl,
   fun _ _ _ => rfl,
   fun _ _ _ => rfl,
   fun _ _ _ _ => rfl,
   fun _ _ _ => rfl,
   fun _ _ _ => rfl,
   fun _ _ _ => rfl,
   fun _ _ _ => rfl,
   fun _ _ _ => rfl⟩

end Ev

namespace Ev
open Go

variable {S : Nat → Option Fn} {n : Nat} {ρ ρ1 : List D} {A A1 : St} {a b c : ECode} {X : Option (Ex × List D × St)} {x : Ex}

def seqK (x : Ex) (r : Option (Ex × List D × St)) (ρ : List D) (A : St) : Option (Ex × List D × St) := match x with | .normal => r | x => some (x, ρ, A)
def blkK (id : Nat) (x : Ex) (ρ : List D) (A : St) : Option (Ex × List D × St) := match x with | .exit id' => if id' = id then some (.normal, ρ, A) else some (.exit id', ρ, A) | x => some (x, ρ, A)

theorem go_seq (h1 : a.run S n ρ A = some (x, ρ1, A1)) (h2 : seqK x (b.run S n ρ1 A1) ρ1 A1 = X) : (ECode.seq a b).run S n ρ A = X := by
  subst h2; simp only [ECode.run, h1, seqK]; cases x <;> rfl
theorem go_k {r : Option (Ex × List D × St)} (h : r = X) : seqK .normal r ρ A = X := h
theorem go_kr {r : Option (Ex × List D × St)} : seqK .ret r ρ A = some (.ret, ρ, A) := rfl
theorem go_kx {r : Option (Ex × List D × St)} {id : Nat} : seqK (.exit id) r ρ A = some (.exit id, ρ, A) := rfl
theorem go_reg {ops : List EOp} (h : runOps S ops ρ A = some (ρ1, A1)) : (ECode.reg ops).run S n ρ A = some (.normal, ρ1, A1) := by simp only [ECode.run, h]
theorem go_regD {ops : List EOp} {ws : List (Nat × Nat)} (h : runOps S ops ρ A = some (ρ1, A1)) : (ECode.regD ops ws).run S n ρ A = some (.normal, ρ1, A1) := by simp only [ECode.run, h]
theorem go_cond {o : Opd} {t : Bool} (h1 : o.ev ρ = .bool t) (h2 : (if t = true then a.run S n ρ A else b.run S n ρ A) = X) : (ECode.cond o a b).run S n ρ A = X := by subst h2; simp only [ECode.run, h1]
theorem go_t {r s : Option (Ex × List D × St)} (h : r = X) : (if true = true then r else s) = X := h
theorem go_f {r s : Option (Ex × List D × St)} (h : s = X) : (if false = true then r else s) = X := h
theorem go_block {id : Nat} (h1 : c.run S n ρ A = some (x, ρ1, A1)) (h2 : blkK id x ρ1 A1 = X) : (ECode.block id c).run S n ρ A = X := by
  subst h2; simp only [ECode.run, h1, blkK]; cases x <;> rfl
theorem go_bn {id : Nat} : blkK id .normal ρ A = some (.normal, ρ, A) := rfl
theorem go_br {id : Nat} : blkK id .ret ρ A = some (.ret, ρ, A) := rfl
theorem go_be {id : Nat} : blkK id (.exit id) ρ A = some (.normal, ρ, A) := by simp [blkK]
theorem go_bx {id id' : Nat} (h : (id' == id) = false) : blkK id (.exit id') ρ A = some (.exit id', ρ, A) := by simp only [blkK]; rw [if_neg (by simpa using h)]
theorem go_loop (h : rounds (c.run S n) n ρ A = X) : (ECode.loop c).run S n ρ A = X := h
theorem go_round {f : Step} {m : Nat} (h1 : f ρ A = some (x, ρ1, A1)) (h2 : seqK x (rounds f m ρ1 A1) ρ1 A1 = X) : rounds f (m + 1) ρ A = X := by
  subst h2; simp only [rounds, h1, seqK]; cases x <;> rfl
theorem go_gh {g : Gh} (h1 : g.run ρ A = some (ρ1, A1)) (h2 : c.run S n ρ1 A1 = X) : (ECode.gh g c).run S n ρ A = X := by subst h2; simp only [ECode.run, h1]
theorem go_skip : ECode.skip.run S n ρ A = some (.normal, ρ, A) := rfl
theorem go_exit {id : Nat} : (ECode.exit id).run S n ρ A = some (.exit id, ρ, A) := rfl
theorem go_ret : ECode.ret.run S n ρ A = some (.ret, ρ, A) := rfl

def tupOf : List D → D
  | [r] => r
  | rs => .tup rs

/-- a function's end -/
theorem go_fn {fn : EFn} {args : List D} {B : List Blk} {rs : List D} {B1 : List Blk} {r : D} (h1 : fn.body.run S n (args ++ List.replicate (fn.nt - args.length) .undef) ⟨B, []⟩ = some (x, ρ, A)) (hx : x = .ret ∨ x = .normal)
    (h2 : fn.res.mapM (fun r => (r.get ρ A).bind (outRes A B.length)) = some rs) (h3 : (rs.filter isNew).length ≤ 1)
    (h4 : (A.blks.take B.length).all (fun b => match b with | .mem fr cells => !fr && (cells.map D.er).all D.pc | _ => false) = true)
    (h5 : ((A.blks.take B.length).map fun b => match b with | .mem fr cells => .mem fr (cells.map D.er) | b => b) = B1) (h6 : tupOf rs = r) : fn.run S n args B = some (r, B1) := by
  subst h5; subst h6
  simp only [EFn.run, h1]
  rcases hx with rfl | rfl <;> simp only [h2] <;> rw [if_pos ⟨h3, h4⟩] <;> (match rs with | [] => rfl | [_] => rfl | _ :: _ :: _ => rfl)

theorem go_mem {A : St} {cells : List D} {B1 : List Blk} (h1 : A.blks.take 1 = [.mem false cells]) (h : (cells.map D.er).all D.pc = true) : (A.blks.take 1).all (fun b => match b with | .mem fr cells => !fr && (cells.map D.er).all D.pc | _ => false) = true := by
  rw [h1]; simp only [List.all_cons, List.all_nil, Bool.not_false, Bool.true_and, Bool.and_true]; exact h

end Ev

namespace Ev
open Go

abbrev Post := Ex → List D → St → Prop

/-- the code comes to an end, and Q holds there -/
def ECode.wp (S : Nat → Option Fn) (n : Nat) (c : ECode) (ρ : List D) (A : St) (Q : Post) : Prop := ∃ x ρ' A', c.run S n ρ A = some (x, ρ', A') ∧ Q x ρ' A'

variable {S : Nat → Option Fn} {n : Nat} {ρ ρ1 : List D} {A A1 : St} {a b c : ECode} {Q : Post} {x : Ex}

def seqQ (S : Nat → Option Fn) (n : Nat) (b : ECode) (Q : Post) : Post := fun x ρ A => match x with | .normal => b.wp S n ρ A Q | x => Q x ρ A
def blkQ (id : Nat) (Q : Post) : Post := fun x ρ A => match x with | .exit id' => if id' = id then Q .normal ρ A else Q (.exit id') ρ A | x => Q x ρ A

theorem w_seq (h : a.wp S n ρ A (seqQ S n b Q)) : (ECode.seq a b).wp S n ρ A Q := by
  obtain ⟨x, ρ1, A1, h1, h2⟩ := h
  cases x with
  | normal =>
    obtain ⟨x, ρ2, A2, h3, h4⟩ := h2
    exact ⟨x, ρ2, A2, by simp only [ECode.run, h1, h3], h4⟩
  | exit id => exact ⟨_, ρ1, A1, by simp only [ECode.run, h1], h2⟩
  | ret => exact ⟨_, ρ1, A1, by simp only [ECode.run, h1], h2⟩
theorem w_n (h : b.wp S n ρ A Q) : seqQ S n b Q .normal ρ A := h
theorem w_r (h : Q .ret ρ A) : seqQ S n b Q .ret ρ A := h
theorem w_x {id : Nat} (h : Q (.exit id) ρ A) : seqQ S n b Q (.exit id) ρ A := h
theorem w_reg {ops : List EOp} (h : runOps S ops ρ A = some (ρ1, A1)) (hq : Q .normal ρ1 A1) : (ECode.reg ops).wp S n ρ A Q := ⟨_, ρ1, A1, go_reg h, hq⟩
theorem w_regD {ops : List EOp} {ws : List (Nat × Nat)} (h : runOps S ops ρ A = some (ρ1, A1)) (hq : Q .normal ρ1 A1) : (ECode.regD ops ws).wp S n ρ A Q := ⟨_, ρ1, A1, go_regD h, hq⟩
theorem w_cond {o : Opd} {t : Bool} (h1 : o.ev ρ = .bool t) (h2 : if t = true then a.wp S n ρ A Q else b.wp S n ρ A Q) : (ECode.cond o a b).wp S n ρ A Q := by
  cases t with
  | true => obtain ⟨x, ρ1, A1, h, hq⟩ := h2; exact ⟨x, ρ1, A1, by simp only [ECode.run, h1, if_true, h], hq⟩
  | false => obtain ⟨x, ρ1, A1, h, hq⟩ := h2; exact ⟨x, ρ1, A1, by simp only [ECode.run, h1, Bool.false_eq_true, if_false, h], hq⟩
theorem w_t {p q : Prop} (h : p) : if true = true then p else q := h
theorem w_f {p q : Prop} (h : q) : if false = true then p else q := h
theorem w_block {id : Nat} (h : c.wp S n ρ A (blkQ id Q)) : (ECode.block id c).wp S n ρ A Q := by
  obtain ⟨x, ρ1, A1, h1, h2⟩ := h
  cases x with
  | normal => exact ⟨_, ρ1, A1, by simp only [ECode.run, h1], h2⟩
  | ret => exact ⟨_, ρ1, A1, by simp only [ECode.run, h1], h2⟩
  | exit id' =>
    by_cases hi : id' = id
    · exact ⟨.normal, ρ1, A1, by simp only [ECode.run, h1, hi, if_true], by simp only [blkQ, hi, if_true] at h2; exact h2⟩
    · exact ⟨.exit id', ρ1, A1, by simp only [ECode.run, h1, hi, if_false], by simp only [blkQ, hi, if_false] at h2; exact h2⟩
theorem w_bn {id : Nat} (h : Q .normal ρ A) : blkQ id Q .normal ρ A := h
theorem w_br {id : Nat} (h : Q .ret ρ A) : blkQ id Q .ret ρ A := h
theorem w_be {id : Nat} (h : Q .normal ρ A) : blkQ id Q (.exit id) ρ A := by simp only [blkQ, if_true]; exact h
theorem w_bx {id id' : Nat} (hi : (id' == id) = false) (h : Q (.exit id') ρ A) : blkQ id Q (.exit id') ρ A := by simp only [blkQ]; rw [if_neg (by simpa using hi)]; exact h
theorem w_skip (h : Q .normal ρ A) : ECode.skip.wp S n ρ A Q := ⟨_, ρ, A, rfl, h⟩
theorem w_exit {id : Nat} (h : Q (.exit id) ρ A) : (ECode.exit id).wp S n ρ A Q := ⟨_, ρ, A, rfl, h⟩
theorem w_ret (h : Q .ret ρ A) : ECode.ret.wp S n ρ A Q := ⟨_, ρ, A, rfl, h⟩
theorem w_gh {g : Gh} (h1 : g.run ρ A = some (ρ1, A1)) (h2 : c.wp S n ρ1 A1 Q) : (ECode.gh g c).wp S n ρ A Q := by
  obtain ⟨x, ρ2, A2, h, hq⟩ := h2
  exact ⟨x, ρ2, A2, go_gh h1 h, hq⟩

/-- rounds of a loop, by what is to hold behind them -/
def wpR (f : Step) (m : Nat) (ρ : List D) (A : St) (Q : Post) : Prop := ∃ x ρ' A', rounds f m ρ A = some (x, ρ', A') ∧ Q x ρ' A'
def rndQ (f : Step) (m : Nat) (Q : Post) : Post := fun x ρ A => match x with | .normal => wpR f m ρ A Q | x => Q x ρ A

theorem w_loop (h : wpR (c.run S n) n ρ A Q) : (ECode.loop c).wp S n ρ A Q := h
theorem w_round {m : Nat} (h : c.wp S n ρ A (rndQ (c.run S n) m Q)) : wpR (c.run S n) (m + 1) ρ A Q := by
  obtain ⟨x, ρ1, A1, h1, h2⟩ := h
  cases x with
  | normal => obtain ⟨x, ρ2, A2, h3, h4⟩ := h2; exact ⟨x, ρ2, A2, by simp only [rounds, h1, h3], h4⟩
  | exit id => exact ⟨_, ρ1, A1, by simp only [rounds, h1], h2⟩
  | ret => exact ⟨_, ρ1, A1, by simp only [rounds, h1], h2⟩
theorem w_rn {f : Step} {m : Nat} (h : wpR f m ρ A Q) : rndQ f m Q .normal ρ A := h
theorem w_rx {f : Step} {m id : Nat} (h : Q (.exit id) ρ A) : rndQ f m Q (.exit id) ρ A := h
theorem w_rr {f : Step} {m : Nat} (h : Q .ret ρ A) : rndQ f m Q .ret ρ A := h
theorem wpR.mono {f : Step} {m : Nat} {Q' : Post} (h : wpR f m ρ A Q) (hq : ∀ x ρ A, Q x ρ A → Q' x ρ A) : wpR f m ρ A Q' := by
  obtain ⟨x, ρ1, A1, h1, h2⟩ := h
  exact ⟨x, ρ1, A1, h1, hq _ _ _ h2⟩
theorem wp_mono {Q' : Post} (h : c.wp S n ρ A Q) (hq : ∀ x ρ A, Q x ρ A → Q' x ρ A) : c.wp S n ρ A Q' := by
  obtain ⟨x, ρ1, A1, h1, h2⟩ := h
  exact ⟨x, ρ1, A1, h1, hq _ _ _ h2⟩

-- slots
theorem gs_eq {i : Nat} {d e : D} (h : i < ρ.length) : (ρ.set i d).getD i e = d := by simp [List.getD, h]
theorem gs_ne {i j : Nat} {d e : D} (h : i ≠ j) : (ρ.set i d).getD j e = ρ.getD j e := by
  simp [List.getD, List.getElem?_set_ne h]

/-- a function, by what holds where its code ends -/
theorem w_fn {fn : EFn} {args : List D} {B : List Blk} {r : D} {B1 : List Blk}
    (h : fn.body.wp S n (args ++ List.replicate (fn.nt - args.length) .undef) ⟨B, []⟩ (fun x ρ A => (x = .ret ∨ x = .normal) ∧ ∃ rs, fn.res.mapM (fun r => (r.get ρ A).bind (outRes A B.length)) = some rs ∧ (rs.filter isNew).length ≤ 1 ∧
      (A.blks.take B.length).all (fun b => match b with | .mem fr cells => !fr && (cells.map D.er).all D.pc | _ => false) = true ∧
      ((A.blks.take B.length).map fun b => match b with | .mem fr cells => .mem fr (cells.map D.er) | b => b) = B1 ∧ tupOf rs = r)) : fn.run S n args B = some (r, B1) := by
  obtain ⟨x, ρ, A, h1, hx, rs, h2, h3, h4, h5, h6⟩ := h
  exact go_fn h1 hx h2 h3 h4 h5 h6

end Ev

namespace Ev
open Go

abbrev SF := Nat → D

def pt (f : SF) (t : Nat) (d : D) : SF := fun s => if s = t then d else f s
theorem pt_eq {f : SF} {t : Nat} {d : D} : pt f t d t = d := if_pos rfl
theorem pt_ne {f : SF} {t s : Nat} {d : D} (h : (s == t) = false) : pt f t d s = f s := if_neg (by simpa using h)

/-- the slots that a function begins with -/
def ini (args : List D) : SF := fun t => args.getD t .undef
theorem ini_zero {d : D} {r : List D} : ini (d :: r) 0 = d := rfl
theorem ini_succ {d : D} {r : List D} {n : Nat} : ini (d :: r) (n + 1) = ini r n := by simp [ini]
theorem ini_nil {n : Nat} : ini [] n = .undef := by simp [ini]

def Opd.evF (f : SF) : Opd → D
  | .t n => f n
  | .d x => x

def Ins.runF (S : Nat → Option Fn) (f : SF) (A : St) : Ins → Option (D × St)
  | .mov x => some (x.evF f, A)
  | .nilc x => match nilcD (x.evF f) with | some d => some (d, A) | none => none
  | .pick c a b => match c.evF f with
    | .bool t => some (if t then a.evF f else b.evF f, A)
    | _ => none
  | .alloc zs => some (A.push (.mem false zs))
  | .box x => if (x.evF f).cells.all putCells.D.pc0 then some (A.push (.mem false (x.evF f).cells)) else none
  | .build zs parts =>
    match putCells zs (parts.map fun p => (p.1, p.2.1, (p.2.2).evF f)) with
    | some cs => some (.agg (cs.map D.er), A)
    | none => none
  | .bsl m w zs ln parts =>
    match putCells ((List.replicate ln zs).flatten) (parts.map fun p => (p.1 * w, w, (p.2).evF f)) with
    | some cs => if zs.length = w ∧ (cs.map D.er).all D.pc then some (A.newSl m .full w (chunks w ln (cs.map D.er))) else none
    | none => none
  | .load w ag x => match loadD A w ag (x.evF f) with | some d => some (d, A) | none => none
  | .store w x v => storeD A w (x.evF f) (v.evF f)
  | .bin op x y => match runBin op (x.evF f) (y.evF f) with | some d => some (d, A) | none => none
  | .eqb ng x y => match x.evF f, y.evF f with
    | .bool a, .bool b => some (.bool (if ng then !(a == b) else (a == b)), A)
    | _, _ => none
  | .eqa n ng x y => match x.evF f, y.evF f with
    | .agg a, .agg b => if a.length = n ∧ b.length = n then (match eqCells a b with | some t => some (.bool (if ng then !t else t), A) | none => none) else none
    | _, _ => none
  | .eqnil ng x y => match eqnilD ng (x.evF f) (y.evF f) with | some d => some (d, A) | none => none
  | .neg op x => match runNeg op (x.evF f) with | some d => some (d, A) | none => none
  | .cv m c x => cvD A m c (x.evF f)
  | .arrp n x => match x.evF f with
    | .sl _ w els => if w = 1 ∧ 0 < n ∧ n ≤ els.length then some (.ref ((els.take n).flatten), A) else none
    | _ => none
  | .slS w x lo hi => match sliceS w (x.evF f) (lo.map (·.evF f)) (hi.map (·.evF f)) with | some d => some (d, A) | none => none
  | .slT x lo hi => match x.evF f with
    | .str s => match bounds s.length (lo.map (·.evF f)) (hi.map (·.evF f)) with
      | some (l, h) => some (.str ((s.take h).drop l), A)
      | none => none
    | _ => none
  | .slA w n x lo hi => match sliceA A w n (x.evF f) (lo.map (·.evF f)) (hi.map (·.evF f)) with | some d => some (d, A) | none => none
  | .fadr off x => match fadrD off (x.evF f) with | some d => some (d, A) | none => none
  | .iadrS w x i => match iaS w (x.evF f) (i.evF f) with | some d => some (d, A) | none => none
  | .iadrA w n x i => match iaA w n (x.evF f) (i.evF f) with | some d => some (d, A) | none => none
  | .idxT x i => match x.evF f, i.evF f with
    | .str s, .int _ i => if 0 ≤ i then (match s[i.toNat]? with | some b => some (.int .u8 b.toNat, A) | none => none) else none
    | _, _ => none
  | .ext i x => match x.evF f with
    | .tup ds => match ds[i]? with | some d => some (d, A) | none => none
    | _ => none
  | .call g args sel m => callD S A g (args.map (·.evF f)) sel m
  | .len x => match lenD (x.evF f) with | some d => some (d, A) | none => none
  | .lenT x => match x.evF f with
    | .str s => some (N64 s.length, A)
    | _ => none
  | .lenC n => some (N64 n, A)
  | .app st m w bs x y => appD A st m w bs (x.evF f) (y.evF f)
  | .copyB w x y => copyD A w (x.evF f) (y.evF f)
  | .mm mx args => match args.map (·.evF f) with
    | a :: r => match mmD mx a r with | some d => some (d, A) | none => none
    | [] => none
  | .mk m w bs zs l => match l.evF f with
    | .int _ n => if 0 ≤ n ∧ n * bs ≤ 140737488355328 ∧ n < 9223372036854775808 ∧ zs.length = w ∧ zs.all D.pc then some (A.newSl m .full w (List.replicate n.toNat zs)) else none
    | _ => none
  | .rng x => match x.evF f with
    | .str s => some (A.push (.iter s 0))
    | _ => none
  | .nxt x => match x.evF f with
    | .ptr j 0 => match A.blks[j]? with
      | some (.iter s pos) =>
        if pos < s.length then
          some (.tup [.bool true, N64 pos, N32 (Utf8.decode ⟨s.toArray⟩ pos).1], { A with blks := A.blks.set j (.iter s (pos + (Utf8.decode ⟨s.toArray⟩ pos).2)) })
        else some (.tup [.bool false], A)
      | _ => none
    | _ => none
  | .never => none

variable {S : Nat → Option Fn}

theorem evF_eq {ρ : List D} {f : SF} (h : ∀ t, ρ.getD t .undef = f t) (x : Opd) : x.ev ρ = x.evF f := by
  cases x with
  | t n => exact h n
  | d x => rfl

theorem Ins.runF_eq {ρ : List D} {f : SF} (h : ∀ t, ρ.getD t .undef = f t) (A : St) (i : Ins) : i.run S ρ A = i.runF S f A := by
  have e : ∀ x : Opd, x.ev ρ = x.evF f := evF_eq h
  have e1 : (fun x : Opd => x.ev ρ) = fun x => x.evF f := funext e
  have e2 : (fun p : Nat × Nat × Opd => (p.1, p.2.1, (p.2.2).ev ρ)) = fun p => (p.1, p.2.1, (p.2.2).evF f) := funext fun p => by rw [e]
  have e3 : ∀ w : Nat, (fun p : Nat × Opd => (p.1 * w, w, (p.2).ev ρ)) = fun p => (p.1 * w, w, (p.2).evF f) := fun w => funext fun p => by rw [e]
  cases i <;> simp only [Ins.run, Ins.runF, e, e1, e2, e3] <;> rfl

def EOp.runF (S : Nat → Option Fn) (o : EOp) (f : SF) (A : St) : Option (SF × St) :=
  match o with
  | ⟨some t, i, none⟩ => match i.runF S f A with
    | some (d, A') => some (pt f t d, A')
    | none => none
  | ⟨none, i, none⟩ => match i.runF S f A with
    | some (_, A') => some (f, A')
    | none => none
  | ⟨some t, i, some (s, want)⟩ => match f s with
    | .bool b => if b = want then (match i.runF S f A with
      | some (d, A') => some (pt f t d, A')
      | none => none) else some (pt f t .undef, A)
    | .tup [] => some (pt f t .undef, A)
    | _ => none
  | ⟨none, i, some (s, want)⟩ => match f s with
    | .bool b => if b = want then (match i.runF S f A with
      | some (_, A') => some (f, A')
      | none => none) else some (f, A)
    | .tup [] => some (f, A)
    | _ => none

def runOpsF (S : Nat → Option Fn) : List EOp → SF → St → Option (SF × St)
  | [], f, A => some (f, A)
  | o :: r, f, A => match o.runF S f A with
    | some (f', A') => runOpsF S r f' A'
    | none => none

def Gh.runF (g : Gh) (f : SF) (A : St) : Option (SF × St) :=
  match g with
  | .frz t => match f t with
    | .ptr j _ => match A.blks[j]? with
      | some (.mem false cells) => if cells.all D.pc then some (f, { A with blks := A.blks.set j (.mem true cells) }) else none
      | _ => none
    | _ => none
  | .frzS t m => match f t with
    | .loc j off w n => match A.blks[j]? with
      | some (.mem false cells) =>
        if off = 0 ∧ cells.length = n * w ∧ 0 < w ∧ cells.all D.pc then
          let x := ({ A with blks := A.blks.set j .dead } : St).newSl (if m = .trk then .any else m) .any w (chunks w n cells)
          some (pt f t x.1, x.2)
        else none
      | _ => none
    | _ => none
  | .own t => match f t with
    | .sl .nilk w els => some (pt f t (.sl (.tok A.toks.length els.length) w els), { A with toks := A.toks ++ [els.length] })
    | .sl .full w els => some (pt f t (.sl (.tok A.toks.length els.length) w els), { A with toks := A.toks ++ [els.length] })
    | _ => none

abbrev StepF := SF → St → Option (Ex × SF × St)

def roundsF (f : StepF) : Nat → StepF
  | 0, _, _ => none
  | n + 1, ρ, A => match f ρ A with
    | some (.normal, ρ', A') => roundsF f n ρ' A'
    | r => r

def ECode.runF (S : Nat → Option Fn) (n : Nat) : ECode → StepF
  | .skip, f, A => some (.normal, f, A)
  | .reg ops, f, A => match runOpsF S ops f A with | some (f', A') => some (.normal, f', A') | none => none
  | .regD ops _, f, A => match runOpsF S ops f A with | some (f', A') => some (.normal, f', A') | none => none
  | .seq a b, f, A => match a.runF S n f A with
    | some (.normal, f', A') => b.runF S n f' A'
    | r => r
  | .cond c a b, f, A => match c.evF f with
    | .bool t => if t then a.runF S n f A else b.runF S n f A
    | _ => none
  | .block id c, f, A => match c.runF S n f A with
    | some (.exit id', f', A') => if id' = id then some (.normal, f', A') else some (.exit id', f', A')
    | r => r
  | .loop c, f, A => roundsF (c.runF S n) n f A
  | .exit id, f, A => some (.exit id, f, A)
  | .ret, f, A => some (.ret, f, A)
  | .gh g c, f, A => match g.runF f A with
    | some (f', A') => c.runF S n f' A'
    | none => none

-- ------------------------------------------------------------------ which slots are written
def Gh.wr : Gh → List Nat
  | .frz _ => []
  | .frzS t _ => [t]
  | .own t => [t]
def dsts : List EOp → List Nat
  | [] => []
  | o :: r => match o.dst with | some t => t :: dsts r | none => dsts r
def ECode.writes : ECode → List Nat
  | .reg ops => dsts ops
  | .regD ops _ => dsts ops
  | .seq a b => a.writes ++ b.writes
  | .cond _ a b => a.writes ++ b.writes
  | .block _ c => c.writes
  | .loop c => c.writes
  | .gh g c => g.wr ++ c.writes
  | _ => []
/-- is every slot that is written one of the first N? -/
def ECode.bnd (N : Nat) (c : ECode) : Bool := c.writes.all (fun t => Nat.blt t N)

def Rep (N : Nat) (ρ : List D) (f : SF) : Prop := ρ.length = N ∧ ∀ t, ρ.getD t .undef = f t

theorem Rep.pt {N : Nat} {ρ : List D} {f : SF} {t : Nat} {d : D} (h : Rep N ρ f) (ht : t < N) : Rep N (ρ.set t d) (pt f t d) := by
  refine ⟨by rw [List.length_set]; exact h.1, fun s => ?_⟩
  by_cases hs : s = t
  · subst hs; rw [pt_eq, gs_eq (by rw [h.1]; exact ht)]
  · rw [pt_ne (by simpa using hs), gs_ne (Ne.symm hs)]; exact h.2 s

theorem EOp.sim {N : Nat} {o : EOp} (hb : (dsts [o]).all (fun t => Nat.blt t N) = true) {ρ : List D} {f : SF} (h : Rep N ρ f) {A : St} {f' : SF} {A' : St} (hr : o.runF S f A = some (f', A')) : ∃ ρ', o.run S ρ A = some (ρ', A') ∧ Rep N ρ' f' := by
  obtain ⟨dst, ins, guard⟩ := o
  have hi := Ins.runF_eq (S := S) h.2 A ins
  have ht : ∀ t, dst = some t → t < N := by
    rintro t rfl
    simpa [dsts, Nat.blt_eq] using hb
  cases dst with
  | none =>
    cases guard with
    | none =>
      simp only [EOp.runF] at hr
      simp only [EOp.run, hi]
      cases hx : ins.runF S f A with
      | none => rw [hx] at hr; cases hr
      | some x => rw [hx] at hr; cases hr; exact ⟨ρ, rfl, h⟩
    | some g =>
      obtain ⟨s, want⟩ := g
      simp only [EOp.runF] at hr
      simp only [EOp.run, hi, h.2 s]
      cases hs : f s <;> rw [hs] at hr <;> try (cases hr; done)
      · rename_i b
        simp only at hr ⊢
        split at hr
        · rename_i hbw
          rw [if_pos hbw]
          cases hx : ins.runF S f A with
          | none => rw [hx] at hr; cases hr
          | some x => rw [hx] at hr; cases hr; exact ⟨ρ, rfl, h⟩
        · rename_i hbw
          rw [if_neg hbw]
          cases hr; exact ⟨ρ, rfl, h⟩
      · rename_i ds
        cases ds with
        | nil => cases hr; exact ⟨ρ, rfl, h⟩
        | cons d r => cases hr
  | some t =>
    have ht := ht t rfl
    cases guard with
    | none =>
      simp only [EOp.runF] at hr
      simp only [EOp.run, hi]
      cases hx : ins.runF S f A with
      | none => rw [hx] at hr; cases hr
      | some x => rw [hx] at hr; cases hr; exact ⟨_, rfl, h.pt ht⟩
    | some g =>
      obtain ⟨s, want⟩ := g
      simp only [EOp.runF] at hr
      simp only [EOp.run, hi, h.2 s]
      cases hs : f s <;> rw [hs] at hr <;> try (cases hr; done)
      · rename_i b
        simp only at hr ⊢
        split at hr
        · rename_i hbw
          rw [if_pos hbw]
          cases hx : ins.runF S f A with
          | none => rw [hx] at hr; cases hr
          | some x => rw [hx] at hr; cases hr; exact ⟨_, rfl, h.pt ht⟩
        · rename_i hbw
          rw [if_neg hbw]
          cases hr; exact ⟨_, rfl, h.pt ht⟩
      · rename_i ds
        cases ds with
        | nil => cases hr; exact ⟨_, rfl, h.pt ht⟩
        | cons d r => cases hr

theorem dsts_cons (o : EOp) (r : List EOp) : dsts (o :: r) = dsts [o] ++ dsts r := by
  obtain ⟨dst, ins, guard⟩ := o
  cases dst <;> rfl

theorem ops_sim {N : Nat} : ∀ {ops : List EOp} (_ : (dsts ops).all (fun t => Nat.blt t N) = true) {ρ : List D} {f : SF} (_ : Rep N ρ f) {A : St} {f' : SF} {A' : St} (_ : runOpsF S ops f A = some (f', A')), ∃ ρ', runOps S ops ρ A = some (ρ', A') ∧ Rep N ρ' f'
  | [], _, ρ, f, h, A, f', A', hr => by cases hr; exact ⟨ρ, rfl, h⟩
  | o :: r, hb, ρ, f, h, A, f', A', hr => by
    rw [dsts_cons, List.all_append, Bool.and_eq_true] at hb
    simp only [runOpsF] at hr
    cases hx : o.runF S f A with
    | none => rw [hx] at hr; cases hr
    | some x =>
      rw [hx] at hr
      obtain ⟨ρ1, h1, h2⟩ := EOp.sim hb.1 h hx
      obtain ⟨ρ2, h3, h4⟩ := ops_sim hb.2 h2 hr
      exact ⟨ρ2, by simp only [runOps, h1, h3], h4⟩

theorem Gh.sim {N : Nat} {g : Gh} (hb : g.wr.all (fun t => Nat.blt t N) = true) {ρ : List D} {f : SF} (h : Rep N ρ f) {A : St} {f' : SF} {A' : St} (hr : g.runF f A = some (f', A')) : ∃ ρ', g.run ρ A = some (ρ', A') ∧ Rep N ρ' f' := by
  cases g with
  | frz t =>
    simp only [Gh.runF] at hr
    simp only [Gh.run, h.2 t]
    cases hs : f t <;> rw [hs] at hr <;> try (cases hr; done)
    rename_i j off
    simp only at hr ⊢
    cases hx : A.blks[j]? with
    | none => rw [hx] at hr; cases hr
    | some x =>
      rw [hx] at hr
      cases x with
      | mem fr cells => cases fr with
        | true => cases hr
        | false =>
          simp only at hr ⊢
          split at hr
          · rename_i hc; rw [if_pos hc]; cases hr; exact ⟨ρ, rfl, h⟩
          · cases hr
      | iter s p => cases hr
      | dead => cases hr
  | frzS t m =>
    have ht : t < N := by simpa [Gh.wr, Nat.blt_eq] using hb
    simp only [Gh.runF] at hr
    simp only [Gh.run, h.2 t]
    cases hs : f t <;> rw [hs] at hr <;> try (cases hr; done)
    rename_i j off w n
    simp only at hr ⊢
    cases hx : A.blks[j]? with
    | none => rw [hx] at hr; cases hr
    | some x =>
      rw [hx] at hr
      cases x with
      | mem fr cells => cases fr with
        | true => cases hr
        | false =>
          simp only at hr ⊢
          split at hr
          · rename_i hc; rw [if_pos hc]; cases hr; exact ⟨_, rfl, h.pt ht⟩
          · cases hr
      | iter s p => cases hr
      | dead => cases hr
  | own t =>
    have ht : t < N := by simpa [Gh.wr, Nat.blt_eq] using hb
    simp only [Gh.runF] at hr
    simp only [Gh.run, h.2 t]
    cases hs : f t <;> rw [hs] at hr <;> try (cases hr; done)
    rename_i o w els
    cases o <;> simp only at hr ⊢ <;> first | (cases hr; done) | (cases hr; exact ⟨_, rfl, h.pt ht⟩)

theorem rounds_sim {N : Nat} {f : StepF} {g : Step} (hs : ∀ {ρ : List D} {e : SF}, Rep N ρ e → ∀ {A x e' A'}, f e A = some (x, e', A') → ∃ ρ', g ρ A = some (x, ρ', A') ∧ Rep N ρ' e') :
    ∀ (m : Nat) {ρ : List D} {e : SF}, Rep N ρ e → ∀ {A x e' A'}, roundsF f m e A = some (x, e', A') → ∃ ρ', rounds g m ρ A = some (x, ρ', A') ∧ Rep N ρ' e'
  | 0, _, _, _, _, _, _, _, hr => by cases hr
  | m + 1, ρ, e, h, A, x, e', A', hr => by
    simp only [roundsF] at hr
    cases hx : f e A with
    | none => rw [hx] at hr; cases hr
    | some y =>
      obtain ⟨z, e1, A1⟩ := y
      rw [hx] at hr
      obtain ⟨ρ1, h1, h2⟩ := hs h hx
      cases z with
      | normal =>
        obtain ⟨ρ2, h3, h4⟩ := rounds_sim hs m h2 hr
        exact ⟨ρ2, by simp only [rounds, h1, h3], h4⟩
      | exit id => cases hr; exact ⟨ρ1, by simp only [rounds, h1], h2⟩
      | ret => cases hr; exact ⟨ρ1, by simp only [rounds, h1], h2⟩

theorem bnd_app {N : Nat} {a b : List Nat} (h : (a ++ b).all (fun t => Nat.blt t N) = true) : a.all (fun t => Nat.blt t N) = true ∧ b.all (fun t => Nat.blt t N) = true := by
  rwa [List.all_append, Bool.and_eq_true] at h

theorem code_sim {N n : Nat} : ∀ (c : ECode) (_ : c.bnd N = true) {ρ : List D} {f : SF} (_ : Rep N ρ f) {A : St} {x : Ex} {f' : SF} {A' : St} (_ : c.runF S n f A = some (x, f', A')), ∃ ρ', c.run S n ρ A = some (x, ρ', A') ∧ Rep N ρ' f'
  | .skip, _, ρ, _, h, _, _, _, _, hr => by cases hr; exact ⟨ρ, rfl, h⟩
  | .exit _, _, ρ, _, h, _, _, _, _, hr => by cases hr; exact ⟨ρ, rfl, h⟩
  | .ret, _, ρ, _, h, _, _, _, _, hr => by cases hr; exact ⟨ρ, rfl, h⟩
  | .reg ops, hb, ρ, f, h, A, x, f', A', hr => by
    simp only [ECode.runF] at hr
    cases hx : runOpsF S ops f A with
    | none => rw [hx] at hr; cases hr
    | some y =>
      rw [hx] at hr; cases hr
      obtain ⟨ρ1, h1, h2⟩ := ops_sim hb h hx
      exact ⟨ρ1, by simp only [ECode.run, h1], h2⟩
  | .regD ops _, hb, ρ, f, h, A, x, f', A', hr => by
    simp only [ECode.runF] at hr
    cases hx : runOpsF S ops f A with
    | none => rw [hx] at hr; cases hr
    | some y =>
      rw [hx] at hr; cases hr
      obtain ⟨ρ1, h1, h2⟩ := ops_sim hb h hx
      exact ⟨ρ1, by simp only [ECode.run, h1], h2⟩
  | .seq a b, hb, ρ, f, h, A, x, f', A', hr => by
    obtain ⟨ha, hb⟩ := bnd_app hb
    simp only [ECode.runF] at hr
    cases hx : a.runF S n f A with
    | none => rw [hx] at hr; cases hr
    | some y =>
      obtain ⟨z, f1, A1⟩ := y
      rw [hx] at hr
      obtain ⟨ρ1, h1, h2⟩ := code_sim a ha h hx
      cases z with
      | normal =>
        obtain ⟨ρ2, h3, h4⟩ := code_sim b hb h2 hr
        exact ⟨ρ2, by simp only [ECode.run, h1, h3], h4⟩
      | exit id => cases hr; exact ⟨ρ1, by simp only [ECode.run, h1], h2⟩
      | ret => cases hr; exact ⟨ρ1, by simp only [ECode.run, h1], h2⟩
  | .cond c a b, hb, ρ, f, h, A, x, f', A', hr => by
    obtain ⟨ha, hb⟩ := bnd_app hb
    simp only [ECode.runF] at hr
    simp only [ECode.run, evF_eq h.2]
    cases hc : c.evF f <;> rw [hc] at hr <;> try (cases hr; done)
    rename_i t
    cases t with
    | true => exact code_sim a ha h hr
    | false => exact code_sim b hb h hr
  | .block id c, hb, ρ, f, h, A, x, f', A', hr => by
    simp only [ECode.runF] at hr
    cases hx : c.runF S n f A with
    | none => rw [hx] at hr; cases hr
    | some y =>
      obtain ⟨z, f1, A1⟩ := y
      rw [hx] at hr
      obtain ⟨ρ1, h1, h2⟩ := code_sim c hb h hx
      cases z with
      | normal => cases hr; exact ⟨ρ1, by simp only [ECode.run, h1], h2⟩
      | ret => cases hr; exact ⟨ρ1, by simp only [ECode.run, h1], h2⟩
      | exit id' =>
        simp only at hr
        split at hr
        · rename_i hi; cases hr; exact ⟨ρ1, by simp only [ECode.run, h1, hi, if_true], h2⟩
        · rename_i hi; cases hr; exact ⟨ρ1, by simp only [ECode.run, h1, hi, if_false], h2⟩
  | .loop c, hb, ρ, f, h, A, x, f', A', hr => rounds_sim (f := c.runF S n) (g := c.run S n) (fun {_ _} h' {_ _ _ _} hx => code_sim c hb h' hx) n h hr
  | .gh g c, hb, ρ, f, h, A, x, f', A', hr => by
    obtain ⟨hg, hb⟩ := bnd_app hb
    simp only [ECode.runF] at hr
    cases hx : g.runF f A with
    | none => rw [hx] at hr; cases hr
    | some y =>
      obtain ⟨f1, A1⟩ := y
      rw [hx] at hr
      obtain ⟨ρ1, h1, h2⟩ := Gh.sim hg h hx
      obtain ⟨ρ2, h3, h4⟩ := code_sim c hb h2 hr
      exact ⟨ρ2, by simp only [ECode.run, h1, h3], h4⟩

-- ------------------------------------------------------------------ slots that are not written stay
theorem EOp.frame {o : EOp} {f f' : SF} {A A' : St} (hr : o.runF S f A = some (f', A')) (t : Nat) (ht : (dsts [o]).contains t = false) : f' t = f t := by
  obtain ⟨dst, ins, guard⟩ := o
  cases dst with
  | none =>
    cases guard with
    | none => simp only [EOp.runF] at hr; split at hr <;> cases hr; rfl
    | some g =>
      obtain ⟨s, want⟩ := g
      simp only [EOp.runF] at hr
      split at hr
      · split at hr
        · split at hr <;> cases hr; rfl
        · cases hr; rfl
      · cases hr; rfl
      · cases hr
  | some u =>
    have hu : ∀ {d : D}, pt f u d t = f t := fun {d} => pt_ne (by simpa [dsts] using ht)
    cases guard with
    | none => simp only [EOp.runF] at hr; split at hr <;> cases hr; exact hu
    | some g =>
      obtain ⟨s, want⟩ := g
      simp only [EOp.runF] at hr
      split at hr
      · split at hr
        · split at hr <;> cases hr; exact hu
        · cases hr; exact hu
      · cases hr; exact hu
      · cases hr

theorem ncont_app {a b : List Nat} {t : Nat} (h : (a ++ b).contains t = false) : a.contains t = false ∧ b.contains t = false := by
  simpa [List.contains_eq_mem, not_or] using h

theorem ops_frame : ∀ {ops : List EOp} {f f' : SF} {A A' : St} (_ : runOpsF S ops f A = some (f', A')) (t : Nat) (_ : (dsts ops).contains t = false), f' t = f t
  | [], _, _, _, _, hr, _, _ => by cases hr; rfl
  | o :: r, f, f', A, A', hr, t, ht => by
    rw [dsts_cons] at ht
    obtain ⟨h1, h2⟩ := ncont_app ht
    simp only [runOpsF] at hr
    cases hx : o.runF S f A with
    | none => rw [hx] at hr; cases hr
    | some y =>
      obtain ⟨f1, A1⟩ := y
      rw [hx] at hr
      rw [ops_frame hr t h2, EOp.frame hx t h1]

theorem Gh.frame {g : Gh} {f f' : SF} {A A' : St} (hr : g.runF f A = some (f', A')) (t : Nat) (ht : g.wr.contains t = false) : f' t = f t := by
  cases g with
  | frz u =>
    simp only [Gh.runF] at hr
    split at hr
    · split at hr
      · split at hr <;> cases hr; rfl
      · cases hr
    · cases hr
  | frzS u m =>
    have hu : ∀ {d : D}, pt f u d t = f t := fun {d} => pt_ne (by simpa [Gh.wr] using ht)
    simp only [Gh.runF] at hr
    split at hr
    · split at hr
      · split at hr <;> cases hr; exact hu
      · cases hr
    · cases hr
  | own u =>
    have hu : ∀ {d : D}, pt f u d t = f t := fun {d} => pt_ne (by simpa [Gh.wr] using ht)
    simp only [Gh.runF] at hr
    split at hr <;> cases hr <;> exact hu

theorem rounds_frame {f : StepF} {ws : List Nat} (hs : ∀ {e A x e' A'}, f e A = some (x, e', A') → ∀ t, ws.contains t = false → e' t = e t) :
    ∀ (m : Nat) {e A x e' A'}, roundsF f m e A = some (x, e', A') → ∀ t, ws.contains t = false → e' t = e t
  | 0, _, _, _, _, _, hr, _, _ => by cases hr
  | m + 1, e, A, x, e', A', hr, t, ht => by
    simp only [roundsF] at hr
    cases hx : f e A with
    | none => rw [hx] at hr; cases hr
    | some y =>
      obtain ⟨z, e1, A1⟩ := y
      rw [hx] at hr
      cases z with
      | normal => rw [rounds_frame hs m hr t ht, hs hx t ht]
      | exit id => cases hr; exact hs hx t ht
      | ret => cases hr; exact hs hx t ht

theorem code_frame {n : Nat} : ∀ (c : ECode) {f : SF} {A : St} {x : Ex} {f' : SF} {A' : St} (_ : c.runF S n f A = some (x, f', A')) (t : Nat) (_ : c.writes.contains t = false), f' t = f t
  | .skip, _, _, _, _, _, hr, _, _ => by cases hr; rfl
  | .exit _, _, _, _, _, _, hr, _, _ => by cases hr; rfl
  | .ret, _, _, _, _, _, hr, _, _ => by cases hr; rfl
  | .reg ops, f, A, x, f', A', hr, t, ht => by
    simp only [ECode.runF] at hr
    cases hx : runOpsF S ops f A with
    | none => rw [hx] at hr; cases hr
    | some y => rw [hx] at hr; cases hr; exact ops_frame hx t ht
  | .regD ops _, f, A, x, f', A', hr, t, ht => by
    simp only [ECode.runF] at hr
    cases hx : runOpsF S ops f A with
    | none => rw [hx] at hr; cases hr
    | some y => rw [hx] at hr; cases hr; exact ops_frame hx t ht
  | .seq a b, f, A, x, f', A', hr, t, ht => by
    obtain ⟨ha, hb⟩ := ncont_app ht
    simp only [ECode.runF] at hr
    cases hx : a.runF S n f A with
    | none => rw [hx] at hr; cases hr
    | some y =>
      obtain ⟨z, f1, A1⟩ := y
      rw [hx] at hr
      cases z with
      | normal => rw [code_frame b hr t hb, code_frame a hx t ha]
      | exit id => cases hr; exact code_frame a hx t ha
      | ret => cases hr; exact code_frame a hx t ha
  | .cond c a b, f, A, x, f', A', hr, t, ht => by
    obtain ⟨ha, hb⟩ := ncont_app ht
    simp only [ECode.runF] at hr
    cases hc : c.evF f <;> rw [hc] at hr <;> try (cases hr; done)
    rename_i u
    cases u with
    | true => exact code_frame a hr t ha
    | false => exact code_frame b hr t hb
  | .block id c, f, A, x, f', A', hr, t, ht => by
    simp only [ECode.runF] at hr
    cases hx : c.runF S n f A with
    | none => rw [hx] at hr; cases hr
    | some y =>
      obtain ⟨z, f1, A1⟩ := y
      rw [hx] at hr
      have := code_frame c hx t ht
      cases z with
      | normal => cases hr; exact this
      | ret => cases hr; exact this
      | exit id' =>
        simp only at hr
        split at hr <;> cases hr <;> exact this
  | .loop c, f, A, x, f', A', hr, t, ht => rounds_frame (f := c.runF S n) (fun {_ _ _ _ _} h => code_frame c h) n hr t ht
  | .gh g c, f, A, x, f', A', hr, t, ht => by
    obtain ⟨hg, hb⟩ := ncont_app ht
    simp only [ECode.runF] at hr
    cases hx : g.runF f A with
    | none => rw [hx] at hr; cases hr
    | some y =>
      obtain ⟨f1, A1⟩ := y
      rw [hx] at hr
      rw [code_frame c hr t hb, Gh.frame hx t hg]

-- ------------------------------------------------------------------ walks
abbrev PostF := Ex → SF → St → Prop

/-- the code comes to an end, and Q holds there -/
def W (S : Nat → Option Fn) (c : ECode) (f : SF) (A : St) (Q : PostF) : Prop := ∃ m x f' A', Q x f' A' ∧ ∀ n, m ≤ n → c.runF S n f A = some (x, f', A')

variable {f f1 : SF} {A A1 : St} {a b c : ECode} {Q : PostF} {x : Ex}

def sQ (S : Nat → Option Fn) (b : ECode) (Q : PostF) : PostF := fun x f A => match x with | .normal => W S b f A Q | x => Q x f A
def bQ (id : Nat) (Q : PostF) : PostF := fun x f A => match x with | .exit id' => if id' = id then Q .normal f A else Q (.exit id') f A | x => Q x f A

theorem W_seq (h : W S a f A (sQ S b Q)) : W S (.seq a b) f A Q := by
  obtain ⟨m, x, f1, A1, h1, h2⟩ := h
  cases x with
  | normal =>
    obtain ⟨m', x, f2, A2, h3, h4⟩ := h1
    refine ⟨max m m', x, f2, A2, h3, fun n hn => ?_⟩
    simp only [ECode.runF, h2 n (by omega), h4 n (by omega)]
  | exit id => exact ⟨m, _, f1, A1, h1, fun n hn => by simp only [ECode.runF, h2 n hn]⟩
  | ret => exact ⟨m, _, f1, A1, h1, fun n hn => by simp only [ECode.runF, h2 n hn]⟩
theorem W_sn (h : W S b f A Q) : sQ S b Q .normal f A := h
theorem W_sr (h : Q .ret f A) : sQ S b Q .ret f A := h
theorem W_sx {id : Nat} (h : Q (.exit id) f A) : sQ S b Q (.exit id) f A := h
theorem W_reg {ops : List EOp} (h : runOpsF S ops f A = some (f1, A1)) (hq : Q .normal f1 A1) : W S (.reg ops) f A Q := ⟨0, _, f1, A1, hq, fun n _ => by simp only [ECode.runF, h]⟩
theorem W_regD {ops : List EOp} {ws : List (Nat × Nat)} (h : runOpsF S ops f A = some (f1, A1)) (hq : Q .normal f1 A1) : W S (.regD ops ws) f A Q := ⟨0, _, f1, A1, hq, fun n _ => by simp only [ECode.runF, h]⟩
theorem W_cond {o : Opd} {t : Bool} (h1 : o.evF f = .bool t) (h2 : if t = true then W S a f A Q else W S b f A Q) : W S (.cond o a b) f A Q := by
  cases t with
  | true => obtain ⟨m, x, f1, A1, hq, h⟩ := h2; exact ⟨m, x, f1, A1, hq, fun n hn => by simp only [ECode.runF, h1, if_true, h n hn]⟩
  | false => obtain ⟨m, x, f1, A1, hq, h⟩ := h2; exact ⟨m, x, f1, A1, hq, fun n hn => by simp only [ECode.runF, h1, Bool.false_eq_true, if_false, h n hn]⟩
theorem W_t {p q : Prop} (h : p) : if true = true then p else q := h
theorem W_f {p q : Prop} (h : q) : if false = true then p else q := h
theorem W_d {P : Prop} [Decidable P] {p q : Prop} (h1 : P → p) (h2 : ¬ P → q) : if decide P = true then p else q := by
  by_cases h : P
  · rw [if_pos (by simpa using h)]; exact h1 h
  · rw [if_neg (by simpa using h)]; exact h2 h
theorem W_b {t : Bool} {p q : Prop} (h1 : t = true → p) (h2 : t = false → q) : if t = true then p else q := by
  cases t with
  | true => exact h1 rfl
  | false => exact h2 rfl
theorem W_block {id : Nat} (h : W S c f A (bQ id Q)) : W S (.block id c) f A Q := by
  obtain ⟨m, x, f1, A1, h1, h2⟩ := h
  cases x with
  | normal => exact ⟨m, _, f1, A1, h1, fun n hn => by simp only [ECode.runF, h2 n hn]⟩
  | ret => exact ⟨m, _, f1, A1, h1, fun n hn => by simp only [ECode.runF, h2 n hn]⟩
  | exit id' =>
    by_cases hi : id' = id
    · exact ⟨m, .normal, f1, A1, by simp only [bQ, hi, if_true] at h1; exact h1, fun n hn => by simp only [ECode.runF, h2 n hn, hi, if_true]⟩
    · exact ⟨m, .exit id', f1, A1, by simp only [bQ, hi, if_false] at h1; exact h1, fun n hn => by simp only [ECode.runF, h2 n hn, hi, if_false]⟩
theorem W_bn {id : Nat} (h : Q .normal f A) : bQ id Q .normal f A := h
theorem W_br {id : Nat} (h : Q .ret f A) : bQ id Q .ret f A := h
theorem W_be {id : Nat} (h : Q .normal f A) : bQ id Q (.exit id) f A := by simp only [bQ, if_true]; exact h
theorem W_bx {id id' : Nat} (hi : (id' == id) = false) (h : Q (.exit id') f A) : bQ id Q (.exit id') f A := by simp only [bQ]; rw [if_neg (by simpa using hi)]; exact h
theorem W_skip (h : Q .normal f A) : W S .skip f A Q := ⟨0, _, f, A, h, fun _ _ => rfl⟩
theorem W_exit {id : Nat} (h : Q (.exit id) f A) : W S (.exit id) f A Q := ⟨0, _, f, A, h, fun _ _ => rfl⟩
theorem W_ret (h : Q .ret f A) : W S .ret f A Q := ⟨0, _, f, A, h, fun _ _ => rfl⟩
theorem W_gh {g : Gh} (h1 : g.runF f A = some (f1, A1)) (h2 : W S c f1 A1 Q) : W S (.gh g c) f A Q := by
  obtain ⟨m, x, f2, A2, hq, h⟩ := h2
  exact ⟨m, x, f2, A2, hq, fun n hn => by simp only [ECode.runF, h1, h n hn]⟩

/-- what holds behind, with what was not written -/
theorem W_mono {Q' : PostF} (h : W S c f A Q) (hq : ∀ x g B, (∀ t, c.writes.contains t = false → g t = f t) → Q x g B → Q' x g B) : W S c f A Q' := by
  obtain ⟨m, x, f1, A1, h1, h2⟩ := h
  exact ⟨m, x, f1, A1, hq _ _ _ (fun t ht => code_frame c (h2 m (Nat.le_refl _)) t ht) h1, h2⟩

/-- behind one round of a loop -/
def lQ (f : SF) (ws : List Nat) (I : Nat → SF → St → Prop) (k : Nat) (Q : PostF) : PostF := fun x g B => match x with
  | .normal => ∃ k', k' < k ∧ I k' g B
  | x => (∀ t, ws.contains t = false → g t = f t) → Q x g B

theorem W_loop {I : Nat → SF → St → Prop} (k : Nat) (h0 : I k f A) (hs : ∀ k g B, (∀ t, c.writes.contains t = false → g t = f t) → I k g B → W S c g B (lQ f c.writes I k Q)) : W S (.loop c) f A Q := by
  have key : ∀ (k : Nat) (g : SF) (B : St), (∀ t, c.writes.contains t = false → g t = f t) → I k g B → ∃ m x f' A', Q x f' A' ∧ ∀ n i, m ≤ n → m ≤ i → roundsF (c.runF S n) i g B = some (x, f', A') := by
    intro k
    induction k using Nat.strongRecOn with
    | _ k ih =>
      intro g B hg hI
      obtain ⟨m, x, g1, B1, h1, h2⟩ := hs k g B hg hI
      have hfr := code_frame c (h2 m (Nat.le_refl _))
      have hfr' : ∀ t, c.writes.contains t = false → g1 t = f t := fun t ht => (hfr t ht).trans (hg t ht)
      cases x with
      | normal =>
        obtain ⟨k', hk', hI'⟩ := h1
        obtain ⟨m', x, f', A', hq, hr⟩ := ih k' hk' g1 B1 hfr' hI'
        refine ⟨max m m' + 1, x, f', A', hq, fun n i hn hi => ?_⟩
        obtain ⟨i, rfl⟩ : ∃ j, i = j + 1 := ⟨i - 1, by omega⟩
        simp only [roundsF, h2 n (by omega), hr n i (by omega) (by omega)]
      | exit id =>
        refine ⟨m + 1, _, g1, B1, h1 hfr', fun n i hn hi => ?_⟩
        obtain ⟨i, rfl⟩ : ∃ j, i = j + 1 := ⟨i - 1, by omega⟩
        simp only [roundsF, h2 n (by omega)]
      | ret =>
        refine ⟨m + 1, _, g1, B1, h1 hfr', fun n i hn hi => ?_⟩
        obtain ⟨i, rfl⟩ : ∃ j, i = j + 1 := ⟨i - 1, by omega⟩
        simp only [roundsF, h2 n (by omega)]
  obtain ⟨m, x, f', A', hq, hr⟩ := key k f A (fun _ _ => rfl) h0
  exact ⟨m, x, f', A', hq, fun n hn => hr n n hn hn⟩

theorem W_ln {ws : List Nat} {I : Nat → SF → St → Prop} {k : Nat} {g : SF} (k' : Nat) (h : k' < k) (hI : I k' g A) : lQ f ws I k Q .normal g A := ⟨k', h, hI⟩
theorem W_lx {ws : List Nat} {I : Nat → SF → St → Prop} {k id : Nat} {g : SF} (h : (∀ t, ws.contains t = false → g t = f t) → Q (.exit id) g A) : lQ f ws I k Q (.exit id) g A := h
theorem W_lr {ws : List Nat} {I : Nat → SF → St → Prop} {k : Nat} {g : SF} (h : (∀ t, ws.contains t = false → g t = f t) → Q .ret g A) : lQ f ws I k Q .ret g A := h

theorem rounds_mono {f g : StepF} (h : ∀ e B y, f e B = some y → g e B = some y) : ∀ (i : Nat) {e B y}, roundsF f i e B = some y → ∀ j, i ≤ j → roundsF g j e B = some y
  | 0, _, _, _, hr, _, _ => by cases hr
  | i + 1, e, B, y, hr, j, hj => by
    obtain ⟨j, rfl⟩ : ∃ k, j = k + 1 := ⟨j - 1, by omega⟩
    simp only [roundsF] at hr ⊢
    cases hx : f e B with
    | none => rw [hx] at hr; cases hr
    | some z =>
      obtain ⟨x, e', B'⟩ := z
      rw [hx] at hr; rw [h _ _ _ hx]
      cases x with
      | normal => exact rounds_mono h i hr j (by omega)
      | exit id => exact hr
      | ret => exact hr

theorem runF_mono {n n' : Nat} (hn : n ≤ n') : ∀ (c : ECode) {f : SF} {A : St} {y}, c.runF S n f A = some y → c.runF S n' f A = some y
  | .skip, _, _, _, h => h
  | .exit _, _, _, _, h => h
  | .ret, _, _, _, h => h
  | .reg _, _, _, _, h => h
  | .regD _ _, _, _, _, h => h
  | .seq a b, f, A, y, h => by
    simp only [ECode.runF] at h ⊢
    cases hx : a.runF S n f A with
    | none => rw [hx] at h; cases h
    | some z =>
      obtain ⟨x, e', B'⟩ := z
      rw [hx] at h; rw [runF_mono hn a hx]
      cases x with
      | normal => exact runF_mono hn b h
      | exit id => exact h
      | ret => exact h
  | .cond c a b, f, A, y, h => by
    simp only [ECode.runF] at h ⊢
    cases hc : c.evF f <;> rw [hc] at h <;> try (cases h; done)
    rename_i t
    cases t with
    | true => exact runF_mono hn a h
    | false => exact runF_mono hn b h
  | .block id c, f, A, y, h => by
    simp only [ECode.runF] at h ⊢
    cases hx : c.runF S n f A with
    | none => rw [hx] at h; cases h
    | some z => rw [hx] at h; rw [runF_mono hn c hx]; exact h
  | .loop c, f, A, y, h => rounds_mono (fun _ _ _ hx => runF_mono hn c hx) n h n' hn
  | .gh g c, f, A, y, h => by
    simp only [ECode.runF] at h ⊢
    cases hx : g.runF f A with
    | none => rw [hx] at h; cases h
    | some z => rw [hx] at h; exact runF_mono hn c h

/-- a loop, one round told -/
def uQ (S : Nat → Option Fn) (c : ECode) (Q : PostF) : PostF := fun x g B => match x with
  | .normal => W S (.loop c) g B Q
  | x => Q x g B

theorem W_unroll (h : W S c f A (uQ S c Q)) : W S (.loop c) f A Q := by
  obtain ⟨m, x, f1, A1, h1, h2⟩ := h
  have key : ∀ n i, m ≤ n → roundsF (c.runF S n) (i + 1) f A = (match some (x, f1, A1) with | some (.normal, ρ', A') => roundsF (c.runF S n) i ρ' A' | r => r) := by
    intro n i hn
    simp only [roundsF, h2 n hn]
  cases x with
  | exit id =>
    refine ⟨m + 1, _, f1, A1, h1, fun n hn => ?_⟩
    obtain ⟨n, rfl⟩ : ∃ j, n = j + 1 := ⟨n - 1, by omega⟩
    exact key (n + 1) n (by omega)
  | ret =>
    refine ⟨m + 1, _, f1, A1, h1, fun n hn => ?_⟩
    obtain ⟨n, rfl⟩ : ∃ j, n = j + 1 := ⟨n - 1, by omega⟩
    exact key (n + 1) n (by omega)
  | normal =>
    obtain ⟨m', x, f2, A2, hq, hr⟩ := h1
    refine ⟨max m m' + 1, x, f2, A2, hq, fun n hn => ?_⟩
    obtain ⟨n, rfl⟩ : ∃ j, n = j + 1 := ⟨n - 1, by omega⟩
    show roundsF (c.runF S (n + 1)) (n + 1) f A = _
    rw [key (n + 1) n (by omega)]
    exact rounds_mono (fun _ _ _ hx => runF_mono (by omega) c hx) m' (hr m' (Nat.le_refl _)) n (by omega)
theorem W_un {g : SF} (h : W S (.loop c) g A Q) : uQ S c Q .normal g A := h
theorem W_ux {g : SF} {id : Nat} (h : Q (.exit id) g A) : uQ S c Q (.exit id) g A := h
theorem W_ur {g : SF} (h : Q .ret g A) : uQ S c Q .ret g A := h

-- ------------------------------------------------------------------ a function
def ERes.getF (f : SF) (A : St) : ERes → Option D
  | .tmp t => some (f t)
  | .cell a w ag => loadD A w ag (f a)

/-- what a function leaves -/
def outs (f : SF) (A : St) (nb : Nat) : List ERes → Option (List D)
  | [] => some []
  | r :: l => match r.getF f A with
    | some d => match outRes A nb d with
      | some d => match outs f A nb l with
        | some ds => some (d :: ds)
        | none => none
      | none => none
    | none => none

theorem outs_eq {N : Nat} {ρ : List D} (h : Rep N ρ f) (nb : Nat) : ∀ l : List ERes, l.mapM (fun r => (r.get ρ A).bind (outRes A nb)) = outs f A nb l
  | [] => rfl
  | r :: l => by
    have e : r.get ρ A = r.getF f A := by cases r <;> simp only [ERes.get, ERes.getF, h.2]
    rw [List.mapM_cons, outs_eq h nb l, e, outs]
    cases r.getF f A with
    | none => rfl
    | some d =>
      simp only [Option.bind_some, bind]
      cases outRes A nb d with
      | none => rfl
      | some d =>
        simp only [Option.bind_some]
        cases outs f A nb l <;> rfl

/-- the blocks that were handed in, as they are handed back -/
def outB : Nat → List Blk → Option (List Blk)
  | 0, _ => some []
  | n + 1, .mem false cells :: r => if (cells.map D.er).all D.pc then (match outB n r with | some l => some (.mem false (cells.map D.er) :: l) | none => none) else none
  | _ + 1, _ => none

theorem outB_spec : ∀ {n : Nat} {l B1 : List Blk}, outB n l = some B1 → (l.take n).all (fun b => match b with | .mem fr cells => !fr && (cells.map D.er).all D.pc | _ => false) = true ∧ ((l.take n).map fun b => match b with | .mem fr cells => .mem fr (cells.map D.er) | b => b) = B1
  | 0, _, _, h => by cases h; exact ⟨rfl, rfl⟩
  | n + 1, .mem false cells :: r, B1, h => by
    simp only [outB] at h
    split at h
    · rename_i hc
      split at h
      · rename_i l hl
        cases h
        obtain ⟨h1, h2⟩ := outB_spec hl
        refine ⟨?_, ?_⟩
        · simp only [List.take_succ_cons, List.all_cons, Bool.not_false, Bool.true_and, h1, Bool.and_true]; exact hc
        · simp only [List.take_succ_cons, List.map_cons, h2]
      · cases h
    · cases h
  | _ + 1, [], _, h => by cases h
  | _ + 1, .mem true _ :: _, _, h => by cases h
  | _ + 1, .iter _ _ :: _, _, h => by cases h
  | _ + 1, .dead :: _, _, h => by cases h

/-- behind a function -/
def fQ (res : List ERes) (nb : Nat) (r : D) (B1 : List Blk) : PostF := fun x f A => (x = .ret ∨ x = .normal) ∧ ∃ rs, outs f A nb res = some rs ∧ (rs.filter isNew).length ≤ 1 ∧ outB nb A.blks = some B1 ∧ tupOf rs = r

theorem W_fn {fn : EFn} {args : List D} {B : List Blk} {r : D} {B1 : List Blk} (hb : fn.body.bnd fn.nt = true) (hl : args.length ≤ fn.nt)
    (h : W S fn.body (ini args) ⟨B, []⟩ (fQ fn.res B.length r B1)) : ∃ n, fn.run S n args B = some (r, B1) := by
  obtain ⟨m, x, f1, A1, ⟨hx, rs, h1, h2, h3, h4⟩, hr⟩ := h
  have hR : Rep fn.nt (args ++ List.replicate (fn.nt - args.length) .undef) (ini args) := by
    refine ⟨by simp; omega, fun t => ?_⟩
    simp only [ini, List.getD_eq_getElem?_getD]
    by_cases ht : t < args.length
    · rw [List.getElem?_append_left ht]
    · rw [List.getElem?_append_right (by omega), List.getElem?_eq_none (l := args) (by omega)]
      rw [List.getElem?_replicate]; split <;> rfl
  obtain ⟨ρ', h5, h6⟩ := code_sim fn.body hb hR (hr m (Nat.le_refl _))
  obtain ⟨h7, h8⟩ := outB_spec h3
  exact ⟨m, go_fn h5 hx (by rw [outs_eq h6]; exact h1) h2 h7 h8 h4⟩

theorem W_go {nt : Nat} {res : List ERes} {body : ECode} {args : List D} {B : List Blk} {r : D} {B1 : List Blk} (hb : body.bnd nt = true) (hl : Nat.ble args.length nt = true)
    (h : W S body (ini args) ⟨B, []⟩ (fQ res B.length r B1)) : ∃ n, EFn.run S n ⟨nt, res, body⟩ args B = some (r, B1) := W_fn (fn := ⟨nt, res, body⟩) hb (Nat.le_of_ble_eq_true hl) h
theorem W_go0 {nt : Nat} {res : List ERes} {body : ECode} {args : List D} {r : D} (hb : body.bnd nt = true) (hl : Nat.ble args.length nt = true)
    (h : W S body (ini args) ⟨[], []⟩ (fQ res 0 r [])) : ∃ n, EFn.run S n ⟨nt, res, body⟩ args [] = some (r, []) := W_go hb hl h

theorem W_fret {res : List ERes} {nb : Nat} {rs : List D} {r : D} {B1 : List Blk} (h1 : outs f A nb res = some rs) (h2 : (rs.filter isNew).length ≤ 1) (h3 : outB nb A.blks = some B1) (h4 : tupOf rs = r) : fQ res nb r B1 .ret f A := ⟨.inl rfl, rs, h1, h2, h3, h4⟩
theorem W_fnor {res : List ERes} {nb : Nat} {rs : List D} {r : D} {B1 : List Blk} (h1 : outs f A nb res = some rs) (h2 : (rs.filter isNew).length ≤ 1) (h3 : outB nb A.blks = some B1) (h4 : tupOf rs = r) : fQ res nb r B1 .normal f A := ⟨.inr rfl, rs, h1, h2, h3, h4⟩
theorem fQ_end {res : List ERes} {nb : Nat} {rs : List D} {r : D} {B1 : List Blk} (hx : x = .ret ∨ x = .normal) (h1 : outs f A nb res = some rs) (h2 : (rs.filter isNew).length ≤ 1) (h3 : outB nb A.blks = some B1) (h4 : tupOf rs = r) : fQ res nb r B1 x f A := ⟨hx, rs, h1, h2, h3, h4⟩

end Ev
