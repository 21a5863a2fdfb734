/-
  Package audit: Audit.
-/
import Derived.Test.YtmcadilggmlbfaaAudc
namespace Go.Proofs.Ytmcadilggmlbfaa
/-- a slice of events that can be read -/
def EvsR (q : HProp) (v : Value) (evs : List Ev) : Prop :=
  ∃ ad cap, v = .slice ad evs.length cap ∧ evs.length ≤ cap ∧ (evs.length = 0 ∨ ∃ b o l rest, ad = some ⟨b, o, none⟩ ∧ RdC q b l ∧ DropN o l (evs.flatMap Ev.v ++ rest))
theorem DropN.more {α : Type} {n : Nat} {l l' : List α} (h : DropN n l l') (r : List α) : DropN n (l ++ r) (l' ++ r) := by
  induction h with
  | zero => exact .zero
  | succ _ ih => exact .succ ih
theorem DropN.add {α : Type} {n m : Nat} {l l' l'' : List α} (h : DropN n l l') (k : DropN m l' l'') : DropN (n + m) l l'' := by
  induction h with
  | zero => rw [Nat.zero_add]; exact k
  | succ _ ih => rw [Nat.succ_add]; exact .succ (ih k)
theorem EvsR.at {q : HProp} {ad : Option Addr} {evs : List Ev} (h : evs.length = 0 ∨ ∃ b o l rest, ad = some ⟨b, o, none⟩ ∧ RdC q b l ∧ DropN o l (evs.flatMap Ev.v ++ rest)) (i : Nat) (hi : i < evs.length) :
    ∃ b o l l1, ad = some ⟨b, o, none⟩ ∧ RdC q b l ∧ DropN (o + (i : Int).toNat * 10) l l1 ∧ TakeN 10 l1 evs[i].v := by
  rcases h with h | ⟨b, o, l, rest, h1, h2, h3⟩
  · omega
  · refine ⟨b, o, l, evs[i].v ++ (evs.drop (i + 1)).flatMap Ev.v ++ rest, h1, h2, h3.add ((DropN.flat Ev.v_len hi).more rest), ?_⟩
    rw [List.append_assoc]; exact TakeN.app evs[i].v _
def audGo (c : Cfg) (a : AudS) (k : Nat) : List Ev → Rep × Int × Int
  | [] => (a.r, 0, 0)
  | ev :: evs => match audStep c a ev with
    | .error e => (⟨0, 0, 0⟩, (k : Int), e)
    | .ok a' => audGo c a' (k + 1) evs
def aud0 (c : Cfg) : AudS := ⟨c.boot, List.replicate c.blocks.toNat 0, ⟨0, 0, 0⟩⟩
def auditOf (c : Cfg) (evs : List Ev) : Rep × Int × Int := if c.right = true then audGo c (aud0 c) 0 evs else (⟨0, 0, 0⟩, 0, 1)
theorem swapOf_err {c : Cfg} {cs : List Cell} {life : List Nat} {r : Rep} {o e : Int} (h : swapOf c cs life r o = .error e) : e ≠ 0 := by
  unfold swapOf at h
  split at h
  · injection h with h; omega
  · split at h
    · injection h with h; omega
    · cases h
theorem audStep_err {c : Cfg} {a : AudS} {ev : Ev} {e : Int} (h : audStep c a ev = .error e) : e ≠ 0 := by
  unfold audStep at h
  split at h
  · rename_i h1; injection h with h; subst h; exact h1
  · split at h
    · injection h with h; omega
    · split at h
      · split at h
        · injection h with h; omega
        · cases h
      · split at h
        · split at h
          · rename_i h2; injection h with h; subst h; exact swapOf_err h2
          · cases h
        · cases h
theorem swapOf_ok {c : Cfg} {cs : List Cell} {life : List Nat} {r : Rep} {o : Int} {x : List Nat × Rep} (h : swapOf c cs life r o = .ok x) : x.1.length = life.length ∧ x.2.words = r.words ∧ x.2.swaps = r.swaps := by
  unfold swapOf at h
  split at h
  · cases h
  · rename_i l hl
    split at h
    · cases h
    · injection h with h; subst h; exact ⟨swapN_len hl, rfl, rfl⟩
theorem audStep_ok {c : Cfg} {a a' : AudS} {ev : Ev} (h : audStep c a ev = .ok a') : a'.cs.length = a.cs.length ∧ a'.life.length = a.life.length ∧ a.r.words ≤ a'.r.words ∧ a'.r.words ≤ a.r.words + 1 ∧ a.r.swaps ≤ a'.r.swaps ∧ a'.r.swaps ≤ a.r.swaps + 1 := by
  unfold audStep at h
  split at h
  · cases h
  · split at h
    · cases h
    · split at h
      · split at h
        · cases h
        · injection h with h; subst h; simp; omega
      · split at h
        · split at h
          · cases h
          · rename_i x hx
            obtain ⟨h1, h2, h3⟩ := swapOf_ok hx
            injection h with h; subst h; dsimp only at *; rw [List.length_set]; refine ⟨rfl, h1, ?_, ?_, ?_, ?_⟩ <;> omega
        · injection h with h; subst h; simp; omega
/-- where the loop stands -/
structure AudI (c : Cfg) (evs : List Ev) where
  k : Nat
  a : AudS
  st : List Int
  tv : Value
  tr : List Ev
  hk : k ≤ evs.length
  go : audGo c (aud0 c) 0 evs = audGo c a k (evs.drop k)
  cs : a.cs.length = c.size
  hst : st.length = 8
  htr : tr.length = k
  life : a.life.length = c.blocks.toNat
  words : 0 ≤ a.r.words ∧ a.r.words ≤ k
  swaps : 0 ≤ a.r.swaps ∧ a.r.swaps ≤ k
def AudI.start (c : Cfg) (evs : List Ev) : AudI c evs where
  k := 0
  a := aud0 c
  st := zeros8
  tv := .slice none 0 0
  tr := []
  hk := Nat.zero_le _
  go := rfl
  cs := c.bootN_len _
  hst := rfl
  htr := rfl
  life := by simp [aud0]
  words := by simp [aud0]
  swaps := by simp [aud0]
set_option maxRecDepth 100000 in
theorem audit_t (c : Cfg) (q : HProp) (v : Value) (evs : List Ev) (hv : EvsR q v evs) (hle : evs.length ≤ 60) :
    Tri Try.prog 7 #[.agg ⟨c.v⟩, v] [q]
      fun v L => v = .tuple ⟨[.agg ⟨(auditOf c evs).1.v⟩, .int .i64 (auditOf c evs).2.1, .int .i64 (auditOf c evs).2.2]⟩ ∧ L = [q] := by
  obtain ⟨ad, cap, rfl, hcap, hev⟩ := hv
  replace hev := EvsR.at hev
  have hof := of_r c
  cases hr : c.right with
  | false =>
    have ha : auditOf c evs = (⟨0, 0, 0⟩, 0, 1) := by unfold auditOf; rw [hr]; rfl
    rw [ha]
    unfold Cfg.ofV at hof
    rw [hr] at hof
    refine Tri.of_body (vs := [_, _]) Try.func7 rfl rfl fun w0 F => ?_
    repeat' (first | (apply Ya; exact Oa) | (apply Yb; exact Ob) | (apply Yc; exact Oc; intro b) | (apply Ye; exact Oe; intro g cap rest hcap) | (apply Yd; exact Od; intro ad cap) | (apply Yf; exact Oj) | (apply Yg; exact Oj; exact ⟨rfl, rfl⟩) | (apply Yh; exact Oj; rfl) | (apply Yi; exact Oj; exact On; all_goals (intro h; try (exfalso; omega))) | apply StL.nil | apply St.region | apply St.seq | apply St.block | apply St.inBlock | apply St.skip | (apply St.exit; rfl) | (apply St.cond_t; rfl) | (apply St.cond_f; rfl) | (apply Ud; rfl; exact On; all_goals (intro h; try (exfalso; omega))) | (apply Za; rfl; exact Oa) | (apply Zb; rfl; exact Oa; exact Ent.go) | (apply Zc; rfl; exact Ob) | (apply Zd; rfl; exact Oc; intro b; refine ⟨Ent.go, ?_⟩) | (apply Ze; rfl; exact Oc; intro b) | (apply Zf; rfl; exact Oe; intro g cap rest hcap) | (apply Zg; rfl; exact Od; intro ad cap) | apply StD.nil | exact StD.nope | apply StD.pick | (apply StD.claim; rfl; intro b) | (apply Zi; rfl; exact Oj; exact Oa) | (apply Zj; rfl; exact Oj; exact Oa; exact Ent.go) | (apply Zk; rfl; exact Oj; exact ⟨rfl, rfl⟩) | (apply Zl; rfl; exact Oj; exact ⟨rfl, rfl⟩; exact Ent.go) | (apply Zm; rfl; exact Oj; rfl) | (apply Zn; rfl; exact Oj; exact Ent.go; rfl) | (refine St.draw (id := 4) [(0, 1), (1, 1), (2, 1), (3, 0), (4, 1), (5, 2), (6, 0), (7, 2), (8, 0)] [] mixed (by kernel_rfl) ?_) | (apply Ka; exact Og; exact hof; exact Oh) | (apply Kb; rfl; exact Og; exact hof; exact Oi) | (apply Kc; rfl; exact Oj; exact Og; exact hof; exact Oi) | (apply Zo; rfl; exact Oj; exact On; all_goals (intro h; try (exfalso; omega))))
    refine St.d1 Try.func7 ?_; apply Exists.intro; apply And.intro; exact ⟨rfl, rfl⟩; exact Ent.go
  | true =>
    have hc := Cfg.small hr
    have := hc.b0; have := hc.b1
    have ha : auditOf c evs = audGo c (aud0 c) 0 evs := by unfold auditOf; rw [hr]; rfl
    rw [ha]
    unfold Cfg.ofV at hof
    rw [hr] at hof
    have hbt := boot_t c hc
    refine Tri.of_body (vs := [_, _]) Try.func7 rfl rfl fun w0 F => ?_
    have hnb : ((c.blocks.toNat : Nat) : Int) = c.blocks := by omega
    have hfl : (List.replicate c.blocks.toNat (cl (Value.int .u64 0))).flatten = lifeV (List.replicate c.blocks.toNat 0) := by
      rw [show cl (Value.int .u64 0) = [Value.int .u64 ((0 : Nat) : Int)] from rfl, List.flatten_replicate_singleton, lifeV, List.map_replicate]
    repeat' (first | (apply Ya; exact Oa) | (apply Yb; exact Ob) | (apply Yc; exact Oc; intro b) | (apply Ye; exact Oe; intro g cap rest hcap) | (apply Yd; exact Od; intro ad cap) | (apply Yf; exact Oj) | (apply Yg; exact Oj; exact ⟨rfl, rfl⟩) | (apply Yh; exact Oj; rfl) | (apply Yi; exact Oj; exact On; all_goals (intro h; try (exfalso; omega))) | apply StL.nil | apply St.region | apply St.seq | apply St.block | apply St.inBlock | apply St.skip | (apply St.exit; rfl) | (apply St.cond_t; rfl) | (apply St.cond_f; rfl) | (apply Ud; rfl; exact On; all_goals (intro h; try (exfalso; omega))) | (apply Za; rfl; exact Oa) | (apply Zb; rfl; exact Oa; exact Ent.go) | (apply Zc; rfl; exact Ob) | (apply Zd; rfl; exact Oc; intro b; refine ⟨Ent.go, ?_⟩) | (apply Ze; rfl; exact Oc; intro b) | (apply Zf; rfl; exact Oe; intro g cap rest hcap) | (apply Zg; rfl; exact Od; intro ad cap) | apply StD.nil | exact StD.nope | apply StD.pick | (apply StD.claim; rfl; intro b) | (apply Zi; rfl; exact Oj; exact Oa) | (apply Zj; rfl; exact Oj; exact Oa; exact Ent.go) | (apply Zk; rfl; exact Oj; exact ⟨rfl, rfl⟩) | (apply Zl; rfl; exact Oj; exact ⟨rfl, rfl⟩; exact Ent.go) | (apply Zm; rfl; exact Oj; rfl) | (apply Zn; rfl; exact Oj; exact Ent.go; rfl) | (refine St.drawT (id := 4) [(0, 1), (1, 1), (3, 0), (4, 1)] (.pick [(2, 2), (5, 2), (6, 0), (7, 2), (8, 0)] .done (.pick [(5, 2), (2, 2), (6, 0), (7, 2), (8, 0)] .done .nope)) [] mixed (by kernel_rfl) ?_) | (apply Ka; exact Og; exact hof; exact Oh) | (apply Kb; rfl; exact Og; exact hof; exact Oi) | (apply Kc; rfl; exact Oj; exact Og; exact hof; exact Oi) | (apply Kd; exact Og; exact hbt; exact Oh; rintro _ _ ⟨M, C, rfl, rfl⟩) | (apply Ke; rfl; exact Og; exact hbt; exact Oh; rintro _ _ ⟨M, C, rfl, rfl⟩) | (apply Kf; rfl; exact Og; exact hbt; exact Oh; rintro _ _ ⟨M, C, rfl, rfl⟩; refine ⟨Ent.go, ?_⟩) | (apply Zo; rfl; exact Oj; exact On; all_goals (intro h; try (exfalso; omega))))
    all_goals
      rename_i bc br bm lf
      rw [hfl]
      refine St.loop (ι := AudI c evs) (fun x => evs.length - x.k)
        (fun x => [(4, .pointer (some ⟨br, 0, none⟩)), (9, .pointer (some ⟨b, 0, none⟩)), (29, .slice ad evs.length cap), (30, .int .i64 (evs.length : Int)), (31, .int .i64 (x.k : Int))])
        (fun x => [bl br 28 (Rep.v ⟨0, 0, 0⟩), bl b 71 (audV c M lf c.blocks.toNat x.a.r), bl M 87 (memV C c.size x.st x.tv), bl C 37 (x.a.cs.flatMap Cell.v), bl lf 22 (lifeV x.a.life), Row x.tv 43 10 x.tr.length (x.tr.flatMap Ev.v), q] ++ F)
        (AudI.start c evs) ?hE ?hL ?round
      case hE => exact Sub.go
      case hL =>
        refine Ent.trans (Ent.row_nil 43 10) ?_
        exact Ent.go
      case round =>
        rintro ⟨k, a, st, tv, tr, hk, hgo, hn, hst, htr, hl, hw, hs⟩ IH; dsimp only at hk hgo hn hst htr hl hw hs ⊢
        by_cases hlt : k < evs.length
        · obtain ⟨eb, eo, el, el1, rfl, hrd, hdr, htk⟩ := hev k hlt
          have hstep := step_t c hc b M C lf c.blocks.toNat c.size a hn st hst tv tr (by omega) hl hnb (by omega) (by omega) evs[k]
          have hgo' := hgo
          rw [List.drop_eq_getElem_cons hlt, audGo] at hgo'
          cases hso : audStep c a evs[k] with
          | error e =>
            have hne := audStep_err hso
            rw [hso] at hstep hgo'
            dsimp only at hgo'
            unfold stepPost at hstep
            dsimp only at hstep
            rw [hgo']
            repeat' (first | (apply Ya; exact Oa) | (apply Yb; exact Ob) | (apply Yc; exact Oc; intro b) | (apply Ye; exact Oe; intro g cap rest hcap) | (apply Yd; exact Od; intro ad cap) | (apply Yf; exact Oj) | (apply Yg; exact Oj; exact ⟨rfl, rfl⟩) | (apply Yh; exact Oj; rfl) | (apply Yi; exact Oj; exact On; all_goals (intro h; try (exfalso; omega))) | apply StL.nil | apply St.region | apply St.seq | apply St.block | apply St.inBlock | apply St.skip | (apply St.exit; rfl) | (apply St.cond_t; rfl) | (apply St.cond_f; rfl) | (apply Ud; rfl; exact On; all_goals (intro h; try (exfalso; omega))) | (apply Za; rfl; exact Oa) | (apply Zb; rfl; exact Oa; exact Ent.go) | (apply Zc; rfl; exact Ob) | (apply Zd; rfl; exact Oc; intro b; refine ⟨Ent.go, ?_⟩) | (apply Ze; rfl; exact Oc; intro b) | (apply Zf; rfl; exact Oe; intro g cap rest hcap) | (apply Zg; rfl; exact Od; intro ad cap) | apply StD.nil | exact StD.nope | apply StD.pick | (apply StD.claim; rfl; intro b) | (apply Zi; rfl; exact Oj; exact Oa) | (apply Zj; rfl; exact Oj; exact Oa; exact Ent.go) | (apply Zk; rfl; exact Oj; exact ⟨rfl, rfl⟩) | (apply Zl; rfl; exact Oj; exact ⟨rfl, rfl⟩; exact Ent.go) | (apply Zm; rfl; exact Oj; rfl) | (apply Zn; rfl; exact Oj; exact Ent.go; rfl) | (refine St.draw (id := 4) [(0, 1), (1, 1), (2, 1), (3, 0), (4, 1), (5, 2), (6, 0), (7, 2), (8, 0)] [] mixed (by kernel_rfl) ?_)  | (apply Kd; exact Og; exact hstep; exact Oh; rintro _ _ rfl) | (apply Ke; rfl; exact Og; exact hstep; exact Oh; rintro _ _ rfl) | (apply Kf; rfl; exact Og; exact hstep; exact Oh; rintro _ _ rfl; refine ⟨Ent.go, ?_⟩) | (apply Zo; rfl; exact Oj; exact On; all_goals (intro h; try (exfalso; omega))))
            refine StL.conv ?_ (Sub.refl _) (Ent.skip (Ent.refl _))
            repeat' (first | (apply Ya; exact Oa) | (apply Yb; exact Ob) | (apply Yc; exact Oc; intro b) | (apply Ye; exact Oe; intro g cap rest hcap) | (apply Yd; exact Od; intro ad cap) | (apply Yf; exact Oj) | (apply Yg; exact Oj; exact ⟨rfl, rfl⟩) | (apply Yh; exact Oj; rfl) | (apply Yi; exact Oj; exact On; all_goals (intro h; try (exfalso; omega))) | apply StL.nil | apply St.region | apply St.seq | apply St.block | apply St.inBlock | apply St.skip | (apply St.exit; rfl) | (apply St.cond_t; rfl) | (apply St.cond_f; rfl) | (apply Ud; rfl; exact On; all_goals (intro h; try (exfalso; omega))) | (apply Za; rfl; exact Oa) | (apply Zb; rfl; exact Oa; exact Ent.go) | (apply Zc; rfl; exact Ob) | (apply Zd; rfl; exact Oc; intro b; refine ⟨Ent.go, ?_⟩) | (apply Ze; rfl; exact Oc; intro b) | (apply Zf; rfl; exact Oe; intro g cap rest hcap) | (apply Zg; rfl; exact Od; intro ad cap) | apply StD.nil | exact StD.nope | apply StD.pick | (apply StD.claim; rfl; intro b) | (apply Zi; rfl; exact Oj; exact Oa) | (apply Zj; rfl; exact Oj; exact Oa; exact Ent.go) | (apply Zk; rfl; exact Oj; exact ⟨rfl, rfl⟩) | (apply Zl; rfl; exact Oj; exact ⟨rfl, rfl⟩; exact Ent.go) | (apply Zm; rfl; exact Oj; rfl) | (apply Zn; rfl; exact Oj; exact Ent.go; rfl) | (refine St.draw (id := 4) [(0, 1), (1, 1), (2, 1), (3, 0), (4, 1), (5, 2), (6, 0), (7, 2), (8, 0)] [] mixed (by kernel_rfl) ?_)  | (apply Zo; rfl; exact Oj; exact On; all_goals (intro h; try (exfalso; omega))))
            refine St.d1 Try.func7 ?_; apply Exists.intro; apply And.intro; exact ⟨rfl, rfl⟩; exact Ent.go
          | ok a' =>
            obtain ⟨g1, g2, g3, g4, g5, g6⟩ := audStep_ok hso
            rw [hso] at hstep hgo'
            dsimp only at hgo'
            unfold stepPost at hstep
            dsimp only at hstep
            repeat' (first | (apply Ya; exact Oa) | (apply Yb; exact Ob) | (apply Yc; exact Oc; intro b) | (apply Ye; exact Oe; intro g cap rest hcap) | (apply Yd; exact Od; intro ad cap) | (apply Yf; exact Oj) | (apply Yg; exact Oj; exact ⟨rfl, rfl⟩) | (apply Yh; exact Oj; rfl) | (apply Yi; exact Oj; exact On; all_goals (intro h; try (exfalso; omega))) | apply StL.nil | apply St.region | apply St.seq | apply St.block | apply St.inBlock | apply St.skip | (apply St.exit; rfl) | (apply St.cond_t; rfl) | (apply St.cond_f; rfl) | (apply Ud; rfl; exact On; all_goals (intro h; try (exfalso; omega))) | (apply Za; rfl; exact Oa) | (apply Zb; rfl; exact Oa; exact Ent.go) | (apply Zc; rfl; exact Ob) | (apply Zd; rfl; exact Oc; intro b; refine ⟨Ent.go, ?_⟩) | (apply Ze; rfl; exact Oc; intro b) | (apply Zf; rfl; exact Oe; intro g cap rest hcap) | (apply Zg; rfl; exact Od; intro ad cap) | apply StD.nil | exact StD.nope | apply StD.pick | (apply StD.claim; rfl; intro b) | (apply Zi; rfl; exact Oj; exact Oa) | (apply Zj; rfl; exact Oj; exact Oa; exact Ent.go) | (apply Zk; rfl; exact Oj; exact ⟨rfl, rfl⟩) | (apply Zl; rfl; exact Oj; exact ⟨rfl, rfl⟩; exact Ent.go) | (apply Zm; rfl; exact Oj; rfl) | (apply Zn; rfl; exact Oj; exact Ent.go; rfl) | (refine St.draw (id := 4) [(0, 1), (1, 1), (2, 1), (3, 0), (4, 1), (5, 2), (6, 0), (7, 2), (8, 0)] [] mixed (by kernel_rfl) ?_)  | (apply Kd; exact Og; exact hstep; exact Oh; rintro _ _ ⟨rfl, st', tv', tr', hst', htr', rfl⟩) | (apply Ke; rfl; exact Og; exact hstep; exact Oh; rintro _ _ ⟨rfl, st', tv', tr', hst', htr', rfl⟩) | (apply Kf; rfl; exact Og; exact hstep; exact Oh; rintro _ _ ⟨rfl, st', tv', tr', hst', htr', rfl⟩; refine ⟨Ent.go, ?_⟩) | (apply Zo; rfl; exact Oj; exact On; all_goals (intro h; try (exfalso; omega))))
            refine (IH ⟨k + 1, a', st', tv', tr', hlt, hgo', by omega, hst', by omega, by omega, by omega, by omega⟩ (by show _ - (k + 1) < _ - k; omega)).conv ?_ ?_
            · exact Sub.go
            · exact Ent.go
        · obtain rfl : k = evs.length := by omega
          clear IH
          rw [List.drop_length, audGo] at hgo
          rw [hgo]
          repeat' (first | (apply Ya; exact Oa) | (apply Yb; exact Ob) | (apply Yc; exact Oc; intro b) | (apply Ye; exact Oe; intro g cap rest hcap) | (apply Yd; exact Od; intro ad cap) | (apply Yf; exact Oj) | (apply Yg; exact Oj; exact ⟨rfl, rfl⟩) | (apply Yh; exact Oj; rfl) | (apply Yi; exact Oj; exact On; all_goals (intro h; try (exfalso; omega))) | apply StL.nil | apply St.region | apply St.seq | apply St.block | apply St.inBlock | apply St.skip | (apply St.exit; rfl) | (apply St.cond_t; rfl) | (apply St.cond_f; rfl) | (apply Ud; rfl; exact On; all_goals (intro h; try (exfalso; omega))) | (apply Za; rfl; exact Oa) | (apply Zb; rfl; exact Oa; exact Ent.go) | (apply Zc; rfl; exact Ob) | (apply Zd; rfl; exact Oc; intro b; refine ⟨Ent.go, ?_⟩) | (apply Ze; rfl; exact Oc; intro b) | (apply Zf; rfl; exact Oe; intro g cap rest hcap) | (apply Zg; rfl; exact Od; intro ad cap) | apply StD.nil | exact StD.nope | apply StD.pick | (apply StD.claim; rfl; intro b) | (apply Zi; rfl; exact Oj; exact Oa) | (apply Zj; rfl; exact Oj; exact Oa; exact Ent.go) | (apply Zk; rfl; exact Oj; exact ⟨rfl, rfl⟩) | (apply Zl; rfl; exact Oj; exact ⟨rfl, rfl⟩; exact Ent.go) | (apply Zm; rfl; exact Oj; rfl) | (apply Zn; rfl; exact Oj; exact Ent.go; rfl) | (refine St.draw (id := 4) [(0, 1), (1, 1), (2, 1), (3, 0), (4, 1), (5, 2), (6, 0), (7, 2), (8, 0)] [] mixed (by kernel_rfl) ?_)  | (apply Zo; rfl; exact Oj; exact On; all_goals (intro h; try (exfalso; omega))))
          refine St.d1 Try.func7 ?_; apply Exists.intro; apply And.intro; exact ⟨rfl, rfl⟩; exact Ent.go
end Go.Proofs.Ytmcadilggmlbfaa
