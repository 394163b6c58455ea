/- Part of a claim: contracts of the program's functions, walked op by op. -/
import Derived.Test.YthabegpfnfbmaaaGreatDoorLL11
set_option linter.unusedSimpArgs false
set_option linter.unusedVariables false
/- Regions that draw, where several operations with an effect may come first: branch by branch. -/
namespace Go.LL
def GY (c : Cx) (l : List Oper) (Q : Post) (Ls : List Chunk) (f : Nat) (listed : Array Bool) (E : Env) (L : List Chunk) : Prop :=
  ∀ a w, Agr c.n E a → St c L w → St c Ls w → wAny c.P l.toArray (NoPanic Q) (St c Ls) (fun _ => false) f listed a w
def GA (c : Cx) (l : List Oper) (Q : Post) (Ls : List Chunk) (f : Nat) (listed : Array Bool) (i : Nat) (E : Env) (L : List Chunk) : Prop :=
  ∀ a w, Agr c.n E a → St c L w → St c Ls w → wpOp c.P l.toArray (NoPanic Q) i (fun a' w' => (false = false → St c Ls w') ∧ wAny c.P l.toArray (NoPanic Q) (St c Ls) (fun _ => false) f (listed.setIfInBounds i true) a' w') a w
def qOk (ops : Array Oper) (listed : Array Bool) (i : Nat) : Bool := Region.free .any ops listed i && (Region.ready .any ops listed).contains i
section
variable {c : Cx} {Q : Post} {E : Env} {L Ls : List Chunk} {l : List Oper} {o : Oper} {v : Value} {i j k n f : Nat} {listed : Array Bool}
theorem gc_drawY {id : Nat} (hm : c.P.follows .mixedOrders = true) (hsub : Ls.Sublist L) (h : GY c l Q Ls l.length (Array.replicate l.toArray.size false) E L) : GC c Q (.region id l.toArray true) E L := fun a w ha hw => by
  refine wp_region_noPanic (wp_region_any hm (wAny_any (S := St c Ls) (T := fun _ => false) _ _ _ _ ?_))
  have := h a w.drew ha hw.drew (hw.drew.sub hsub)
  simpa using this
theorem gy_q (h : OpQ c E Ls o v) (hi : l[i]? = some o) (hg : gd l E o.guard = some true) (hd : dstOk c.n o.dst = true) (hs : Region.noSelect l.toArray = true) (hk : qOk l.toArray listed i = true)
    (k : GY c l Q Ls f (listed.setIfInBounds i true) (putE E o.dst v) L) : GY c l Q Ls (f + 1) listed E L := fun a w ha hw hws => by
  simp only [qOk, Bool.and_eq_true] at hk
  have hi' : l.toArray[i]? = some o := by simpa using hi
  exact wAny_first (S := St c Ls) (T := fun _ => false) (Q := NoPanic Q) (oi := o) (v := v) (P := c.P) hi' hs (fun c a w hq => hq.elim) (fun j oj hj hT => by simp at hT) f listed a w
    (Region.free_spec hi' hk.1) (by simpa using hk.2) (.inl ⟨wanted_of_gd ha hg, fun w hw => h a w ha hw⟩) hws (k _ w (ha.putE hd v) hw hws)
theorem gy_skip (hi : l[i]? = some o) (hg : gd l E o.guard = some false) (hd : dstOk c.n o.dst = true) (hs : Region.noSelect l.toArray = true) (hk : qOk l.toArray listed i = true)
    (k : GY c l Q Ls f (listed.setIfInBounds i true) (putE E o.dst undef) L) : GY c l Q Ls (f + 1) listed E L := fun a w ha hw hws => by
  simp only [qOk, Bool.and_eq_true] at hk
  have hi' : l.toArray[i]? = some o := by simpa using hi
  exact wAny_first (S := St c Ls) (T := fun _ => false) (Q := NoPanic Q) (oi := o) (v := undef) (P := c.P) hi' hs (fun c a w hq => hq.elim) (fun j oj hj hT => by simp at hT) f listed a w
    (Region.free_spec hi' hk.1) (by simpa using hk.2) (.inr ⟨wanted_of_gd ha hg, rfl⟩) hws (k _ w (ha.putE hd undef) hw hws)
theorem gy_1 (hr : Region.ready .any l.toArray listed = [i]) (h : GA c l Q Ls f listed i E L) : GY c l Q Ls (f + 1) listed E L := fun a w ha hw hws =>
  ⟨fun h0 => by rw [h0] at hr; simp at hr, fun q hq => by
    rw [hr] at hq
    have : q = i := by simpa using hq
    subst this; exact h a w ha hw hws⟩
theorem gy_2 (hr : Region.ready .any l.toArray listed = [i, j]) (h1 : GA c l Q Ls f listed i E L) (h2 : GA c l Q Ls f listed j E L) : GY c l Q Ls (f + 1) listed E L := fun a w ha hw hws =>
  ⟨fun h0 => by rw [h0] at hr; simp at hr, fun q hq => by
    rw [hr] at hq
    have : q = i ∨ q = j := by simpa using hq
    rcases this with rfl | rfl
    · exact h1 a w ha hw hws
    · exact h2 a w ha hw hws⟩
theorem gy_3 (hr : Region.ready .any l.toArray listed = [i, j, k]) (h1 : GA c l Q Ls f listed i E L) (h2 : GA c l Q Ls f listed j E L) (h3 : GA c l Q Ls f listed k E L) : GY c l Q Ls (f + 1) listed E L := fun a w ha hw hws =>
  ⟨fun h0 => by rw [h0] at hr; simp at hr, fun q hq => by
    rw [hr] at hq
    have : q = i ∨ q = j ∨ q = k := by simpa using hq
    rcases this with rfl | rfl | rfl
    · exact h1 a w ha hw hws
    · exact h2 a w ha hw hws
    · exact h3 a w ha hw hws⟩
theorem gy_nil (hr : Region.ready .any l.toArray listed = []) (h : AQ c Q .normal E L) : GY c l Q Ls 0 listed E L := fun a w ha hw _ => ⟨hr, NoPanic.normal (h a w ha hw)⟩
theorem ga_e {K : Value → List Chunk → Prop} (h : OpE c E L o K) (hi : l[i]? = some o) (hg : gd l E o.guard = some true) (hd : dstOk c.n o.dst = true)
    (k : ∀ v L', K v L' → Ls.Sublist L' ∧ GY c l Q Ls f (listed.setIfInBounds i true) (putE E o.dst v) L') : GA c l Q Ls f listed i E L := fun a w ha hw _ => by
  have hi' : l.toArray[i]? = some o := by simpa using hi
  unfold wpOp
  simp only [hi']
  rw [if_pos (wanted_of_gd ha hg)]
  refine .inl (h.upon hd ha hw fun v L' w' hK ha' hs' => ?_)
  obtain ⟨hsub, hk2⟩ := k v L' hK
  exact ⟨fun _ => hs'.sub hsub, hk2 _ w' ha' hs' (hs'.sub hsub)⟩
theorem ga_skip (hi : l[i]? = some o) (hg : gd l E o.guard = some false) (hd : dstOk c.n o.dst = true)
    (k : GY c l Q Ls f (listed.setIfInBounds i true) (putE E o.dst undef) L) : GA c l Q Ls f listed i E L := fun a w ha hw hws => by
  have hi' : l.toArray[i]? = some o := by simpa using hi
  unfold wpOp
  simp only [hi']
  rw [if_neg (by rw [wanted_of_gd ha hg]; simp)]
  exact ⟨fun _ => hws, k _ w (ha.putE hd undef) hw hws⟩
theorem ga_qe (h : OpQ c E L o v) (hi : l[i]? = some o) (hg : gd l E o.guard = some true) (hd : dstOk c.n o.dst = true) (hsub : Ls.Sublist L)
    (k : GY c l Q Ls f (listed.setIfInBounds i true) (putE E o.dst v) L) : GA c l Q Ls f listed i E L :=
  ga_e (e_of_q h) hi hg hd fun _ _ ⟨hv, hL⟩ => by subst hv; subst hL; exact ⟨hsub, k⟩
theorem ga_new {zl : List Value} {s : TypeId} (h : OpE c E L o (NewK zl s L)) (hi : l[i]? = some o) (hg : gd l E o.guard = some true) (hd : dstOk c.n o.dst = true) (hsub : Ls.Sublist L)
    (k : ∀ b, GY c l Q Ls f (listed.setIfInBounds i true) (putE E o.dst (.pointer (some ⟨b, 0, none⟩))) ((b, .cells zl.toArray s (0, 0)) :: L)) : GA c l Q Ls f listed i E L :=
  ga_e h hi hg hd fun _ _ ⟨b, hv, hL⟩ => by subst hv; subst hL; exact ⟨hsub.cons _, k b⟩
theorem ga_bsl {zl : List Value} {s n : Nat} (h : OpE c E L o (BslK zl s n L)) (hi : l[i]? = some o) (hg : gd l E o.guard = some true) (hd : dstOk c.n o.dst = true) (hsub : Ls.Sublist L)
    (k : ∀ b, GY c l Q Ls f (listed.setIfInBounds i true) (putE E o.dst (.slice (some ⟨b, 0, none⟩) n n)) ((b, .cells zl.toArray s (0, 0)) :: L)) : GA c l Q Ls f listed i E L :=
  ga_e h hi hg hd fun _ _ ⟨b, hv, hL⟩ => by subst hv; subst hL; exact ⟨hsub.cons _, k b⟩
theorem ga_map (h : OpE c E L o (MapK L)) (hi : l[i]? = some o) (hg : gd l E o.guard = some true) (hd : dstOk c.n o.dst = true) (hsub : Ls.Sublist L)
    (k : ∀ b, GY c l Q Ls f (listed.setIfInBounds i true) (putE E o.dst (.map (some b))) ((b, .map #[] 0) :: L)) : GA c l Q Ls f listed i E L :=
  ga_e h hi hg hd fun _ _ ⟨b, hv, hL⟩ => by subst hv; subst hL; exact ⟨hsub.cons _, k b⟩
theorem ga_app {e size m : Nat} {sl : Sli} {news : List Value} {Lr : List Chunk} (h : OpE c E L o (AppK e size sl m news Lr)) (hi : l[i]? = some o) (hg : gd l E o.guard = some true) (hd : dstOk c.n o.dst = true)
    (k : ∀ s' : Sli, s'.OK size → s'.n = sl.n + m → s'.xs = sl.xs ++ news → Ls.Sublist (s'.L e ++ Lr) ∧ GY c l Q Ls f (listed.setIfInBounds i true) (putE E o.dst s'.v) (s'.L e ++ Lr)) : GA c l Q Ls f listed i E L :=
  ga_e h hi hg hd fun _ _ ⟨s', h1, h2, h3, hv, hL⟩ => by subst hv; subst hL; exact k s' h1 h2 h3
theorem ga_st {L' : List Chunk} (h : OpE c E L o (StK L')) (hi : l[i]? = some o) (hg : gd l E o.guard = some true) (hd : o.dst = none) (hsub : Ls.Sublist L')
    (k : GY c l Q Ls f (listed.setIfInBounds i true) E L') : GA c l Q Ls f listed i E L :=
  ga_e h hi hg (by rw [hd]; rfl) fun _ _ ⟨_, hL⟩ => by subst hL; rw [hd]; exact ⟨hsub, k⟩
theorem ga_callE {Lr : List Chunk} {u : Value} (h : OpE c E L o (CallK Lr (fun v L' => v = u ∧ L' = []))) (hi : l[i]? = some o) (hg : gd l E o.guard = some true) (hd : dstOk c.n o.dst = true) (hsub : Ls.Sublist Lr)
    (k : GY c l Q Ls f (listed.setIfInBounds i true) (putE E o.dst u) Lr) : GA c l Q Ls f listed i E L :=
  ga_e h hi hg hd fun v _ ⟨Lg, ⟨hv, hL'⟩, hL⟩ => by subst hL; subst hL'; subst hv; exact ⟨hsub, k⟩
theorem ga_call {Lr : List Chunk} {R : Value → List Chunk → Prop} (h : OpE c E L o (CallK Lr R)) (hi : l[i]? = some o) (hg : gd l E o.guard = some true) (hd : dstOk c.n o.dst = true) (hsub : Ls.Sublist Lr)
    (k : ∀ v Lg, R v Lg → GY c l Q Ls f (listed.setIfInBounds i true) (putE E o.dst v) (Lg ++ Lr)) : GA c l Q Ls f listed i E L :=
  ga_e h hi hg hd fun v _ ⟨Lg, hR, hL⟩ => by subst hL; exact ⟨hsub.trans (List.sublist_append_right Lg Lr), k v Lg hR⟩
theorem ysp {k : Nat} {b : Bool} (h1 : b = true → GY c l Q Ls f listed ((k, .bool true) :: E) L) (h2 : b = false → GY c l Q Ls f listed ((k, .bool false) :: E) L) : GY c l Q Ls f listed ((k, .bool b) :: E) L := by
  cases b
  · exact h2 rfl
  · exact h1 rfl
theorem yapp {x : Chunk} {A : List Chunk} (h : GY c l Q Ls f listed E (x :: (A ++ L))) : GY c l Q Ls f listed E ((x :: A) ++ L) := h
theorem gapp {x : Chunk} {A : List Chunk} {rest : List Oper} (h : GO c l Q rest E (x :: (A ++ L))) : GO c l Q rest E ((x :: A) ++ L) := h
end
end Go.LL
