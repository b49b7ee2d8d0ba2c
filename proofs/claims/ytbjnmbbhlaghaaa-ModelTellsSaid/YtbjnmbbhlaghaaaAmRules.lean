/- AM: the rules by which a code is run, as rewritings (no sums over binders: the rest of the code stands in a list). -/
import Derived.Test.YtbjnmbbhlaghaaaAmDefs
namespace Go.Am

inductive Fr where
  | c (b : ACode)
  | blk (id : Nat)
  | lp (b : ACode)

def kont (C : Cs) : List Fr → Post → Ex → St → Prop
  | [], Q, e, s => Q e s
  | .c b :: k, Q, e, s => match e with
    | .normal => wpC C b s (kont C k Q)
    | e => kont C k Q e s
  | .blk id :: k, Q, e, s => match e with
    | .exit id' => if id' = id then kont C k Q .normal s else kont C k Q (.exit id') s
    | e => kont C k Q e s
  | .lp b :: k, Q, e, s => match e with
    | .normal => wpC C (.loop b) s (kont C k Q)
    | e => kont C k Q e s

def run (C : Cs) (c : ACode) (k : List Fr) (s : St) (Q : Post) : Prop := wpC C c s (kont C k Q)
def goOps (C : Cs) (l : List AOper) (s : St) (kill : List Nat) (k : List Fr) (Q : Post) : Prop := (evOps C l s).elim fun s' => kont C k Q .normal { s' with t := keepT s'.t kill }
def goR (C : Cs) (r : Res St) (l : List AOper) (kill : List Nat) (k : List Fr) (Q : Post) : Prop :=
  (match r with | .ok s => evOps C l s | .fail => .fail | .vac => .vac).elim fun s' => kont C k Q .normal { s' with t := keepT s'.t kill }
def goE (C : Cs) (d : Option Nat) (s : St) (r : Res Eff) (l : List AOper) (kill : List Nat) (k : List Fr) (Q : Post) : Prop := goR C (ap d s r) l kill k Q

variable {C : Cs} {Q : Post} {s : St} {k : List Fr}

theorem run_def {c : ACode} (h : run C c [] s Q) : wpC C c s Q := by
  have : kont C [] Q = Q := by funext e s; rfl
  unfold run at h; rw [this] at h; exact h

theorem run_seq (a b : ACode) : run C (.seq a b) k s Q = run C a (.c b :: k) s Q := by
  unfold run; rw [wpC]; congr 1
theorem run_block (id : Nat) (c : ACode) : run C (.block id c) k s Q = run C c (.blk id :: k) s Q := by
  unfold run; rw [wpC]; congr 1
theorem run_skip : run C .skip k s Q = kont C k Q .normal s := rfl
theorem run_ret : run C .ret k s Q = kont C k Q .ret s := rfl
theorem run_exit (id : Nat) : run C (.exit id) k s Q = kont C k Q (.exit id) s := rfl
theorem run_ops (l : List AOper) (kill : List Nat) : run C (.ops l kill) k s Q = goOps C l s kill k Q := rfl
theorem run_keep (kt kh : List Nat) (c : ACode) : run C (.keep kt kh c) k s Q = run C c k { t := keepT s.t kt, h := keepH s.h kh, g := s.g } Q := rfl
def goC (C : Cs) (v : AV) (a b : ACode) (k : List Fr) (s : St) (Q : Post) : Prop :=
  match v with
  | .bool t => (t = true → run C a k s Q) ∧ (t = false → run C b k s Q)
  | _ => False
theorem run_cond (c : AOpd) (a b : ACode) : run C (.cond c a b) k s Q = goC C (opv s c) a b k s Q := by
  unfold run goC; rw [wpC]; rfl
theorem goC_bool (t : Bool) (a b : ACode) : goC C (.bool t) a b k s Q = ((t = true → run C a k s Q) ∧ (t = false → run C b k s Q)) := rfl

theorem kont_nil (e : Ex) : kont C [] Q e s = Q e s := rfl
theorem kont_c (b : ACode) : kont C (.c b :: k) Q .normal s = run C b k s Q := rfl
theorem kont_c_ret (b : ACode) : kont C (.c b :: k) Q .ret s = kont C k Q .ret s := rfl
theorem kont_c_exit (b : ACode) (id : Nat) : kont C (.c b :: k) Q (.exit id) s = kont C k Q (.exit id) s := rfl
theorem kont_blk (id : Nat) : kont C (.blk id :: k) Q .normal s = kont C k Q .normal s := rfl
theorem kont_blk_ret (id : Nat) : kont C (.blk id :: k) Q .ret s = kont C k Q .ret s := rfl
theorem kont_blk_exit (id id' : Nat) : kont C (.blk id :: k) Q (.exit id') s = if id' = id then kont C k Q .normal s else kont C k Q (.exit id') s := rfl

theorem goOps_nil (t : Env) (h : Hp) (g : Nat → Nat) (kill : List Nat) : goOps C [] ⟨t, h, g⟩ kill k Q = kont C k Q .normal ⟨keepT t kill, h, g⟩ := rfl
theorem goOps_cons (o : AOper) (l : List AOper) (kill : List Nat) : goOps C (o :: l) s kill k Q = goR C (evOper C s o) l kill k Q := rfl
theorem goR_ok (l : List AOper) (kill : List Nat) : goR C (.ok s) l kill k Q = goOps C l s kill k Q := rfl
theorem goR_ap (d : Option Nat) (r : Res Eff) (l : List AOper) (kill : List Nat) : goR C (ap d s r) l kill k Q = goE C d s r l kill k Q := rfl
theorem goE_ok (d : Option Nat) (e : Eff) (l : List AOper) (kill : List Nat) : goE C d s (.ok e) l kill k Q = goOps C l (app d e s) kill k Q := rfl
theorem goE_fail (d : Option Nat) (l : List AOper) (kill : List Nat) : goE C d s .fail l kill k Q = False := rfl
theorem goE_vac (d : Option Nat) (l : List AOper) (kill : List Nat) : goE C d s .vac l kill k Q = True := rfl
theorem goE_ite (p : Prop) [Decidable p] (d : Option Nat) (x y : Res Eff) (l : List AOper) (kill : List Nat) :
    goE C d s (if p then x else y) l kill k Q = ((p → goE C d s x l kill k Q) ∧ (¬ p → goE C d s y l kill k Q)) := by
  by_cases h : p <;> simp [h]
theorem goR_ite (p : Prop) [Decidable p] (x y : Res St) (l : List AOper) (kill : List Nat) :
    goR C (if p then x else y) l kill k Q = ((p → goR C x l kill k Q) ∧ (¬ p → goR C y l kill k Q)) := by
  by_cases h : p <;> simp [h]

theorem evOper_none (d : Option Nat) (op : AOp) (fp : List Nat) : evOper C s ⟨d, op, none, fp⟩ = ap d s (eff C s ⟨d, op, none, fp⟩) := rfl
def goG (C : Cs) (v : AV) (want : Bool) (s : St) (o : AOper) : Res St :=
  match v with
  | .bool t => if t = want then ap o.d s (eff C s o) else .ok { s with t := putO o.d (some .und) s.t }
  | .und => .ok { s with t := putO o.d (some .und) s.t }
  | _ => .fail
theorem evOper_some (d : Option Nat) (op : AOp) (g : Nat) (want : Bool) (fp : List Nat) :
    evOper C s ⟨d, op, some (g, want), fp⟩ = goG C (look s.t g) want s ⟨d, op, some (g, want), fp⟩ := by
  unfold evOper goG; simp only []; rfl
theorem goG_bool (t want : Bool) (t0 : Env) (h : Hp) (gg : Nat → Nat) (d : Option Nat) (op : AOp) (gd : Option (Nat × Bool)) (fp : List Nat) :
    goG C (.bool t) want ⟨t0, h, gg⟩ ⟨d, op, gd, fp⟩ = if t = want then ap d ⟨t0, h, gg⟩ (eff C ⟨t0, h, gg⟩ ⟨d, op, gd, fp⟩) else .ok ⟨putO d (some .und) t0, h, gg⟩ := rfl
theorem goG_und (want : Bool) (t0 : Env) (h : Hp) (gg : Nat → Nat) (d : Option Nat) (op : AOp) (gd : Option (Nat × Bool)) (fp : List Nat) :
    goG C .und want ⟨t0, h, gg⟩ ⟨d, op, gd, fp⟩ = .ok ⟨putO d (some .und) t0, h, gg⟩ := rfl

theorem app_mk (d : Option Nat) (e : Eff) (t : Env) (h : Hp) (g : Nat → Nat) : app d e ⟨t, h, g⟩ = ⟨putO d e.v t, appH e h, appG e g⟩ := rfl

theorem fin_ret (rs : List ARes) (r : AV) : fin rs r .ret s = (handed s rs = some r) := rfl
theorem fin_normal (rs : List ARes) (r : AV) : fin rs r .normal s = (handed s rs = some r) := rfl

theorem elim_mono {r : Res St} {K K' : St → Prop} (h : ∀ s, K s → K' s) (hr : r.elim K) : r.elim K' := by
  cases r with
  | ok s => exact h _ hr
  | fail => exact hr
  | vac => trivial

theorem iter_mono {W : St → Post → Prop} (hW : ∀ s (Q Q' : Post), (∀ e s, Q e s → Q' e s) → W s Q → W s Q') {Q Q' : Post} (h : ∀ e s, Q e s → Q' e s) :
    ∀ n s, iter W n s Q → iter W n s Q'
  | 0, _, hi => hi
  | n + 1, s, hi => by
    refine hW s _ _ ?_ hi
    intro e s' he
    cases e with
    | normal => exact iter_mono hW h n s' he
    | exit id => exact h _ _ he
    | ret => exact h _ _ he

theorem wpC_mono : ∀ (c : ACode) (s : St) (Q Q' : Post), (∀ e s, Q e s → Q' e s) → wpC C c s Q → wpC C c s Q'
  | .skip, s, Q, Q', h, hw => h _ _ hw
  | .ops l kill, s, Q, Q', h, hw => elim_mono (fun _ => h _ _) hw
  | .seq a b, s, Q, Q', h, hw => by
    refine wpC_mono a s _ _ ?_ hw
    intro e s' he
    cases e with
    | normal => exact wpC_mono b s' _ _ h he
    | exit id => exact h _ _ he
    | ret => exact h _ _ he
  | .cond c a b, s, Q, Q', h, hw => by
    unfold wpC at hw ⊢
    split at hw
    · exact ⟨fun t => wpC_mono a s _ _ h (hw.1 t), fun t => wpC_mono b s _ _ h (hw.2 t)⟩
    · exact hw
  | .block id c, s, Q, Q', h, hw => by
    refine wpC_mono c s _ _ ?_ hw
    intro e s' he
    cases e with
    | normal => exact h _ _ he
    | exit id' =>
      simp only at he ⊢
      split
      · rw [if_pos ‹_›] at he; exact h _ _ he
      · rw [if_neg ‹_›] at he; exact h _ _ he
    | ret => exact h _ _ he
  | .loop c, s, Q, Q', h, hw => by
    obtain ⟨n, hn⟩ := hw
    exact ⟨n, iter_mono (fun s Q Q' => wpC_mono c s Q Q') h n s hn⟩
  | .keep kt kh c, s, Q, Q', h, hw => wpC_mono c _ _ _ h hw
  | .exit id, s, Q, Q', h, hw => h _ _ hw
  | .ret, s, Q, Q', h, hw => h _ _ hw

/-- A LOOP: what holds at every round's head (I), with a number that falls from round to round. -/
theorem run_loop {c : ACode} (I : Nat → St → Prop) (n : Nat) (h0 : I n s)
    (step : ∀ n s, I n s → run C c [] s fun e s' => match e with
      | .normal => ∃ m, m < n ∧ I m s'
      | e => kont C k Q e s') : run C (.loop c) k s Q := by
  unfold run
  rw [wpC]
  have key : ∀ n s, I n s → ∀ N, n < N → iter (wpC C c) N s (kont C k Q) := by
    intro n
    induction n using Nat.strongRecOn with
    | _ n ih =>
      intro s hs N hN
      obtain ⟨N, rfl⟩ : ∃ M, N = M + 1 := ⟨N - 1, by omega⟩
      refine wpC_mono c s _ _ ?_ (run_def (step n s hs))
      intro e s' he
      cases e with
      | normal => obtain ⟨m, hm, hi⟩ := he; exact ih m hm s' hi N (by omega)
      | exit id => exact he
      | ret => exact he
  exact ⟨n + 1, key n s h0 _ (by omega)⟩


/-! ### a loop, round by round -/
theorem wpC_ex : ∀ (c : ACode) (s : St) (P : Nat → Post), (∀ n e s, P n e s → P (n + 1) e s) → wpC C c s (fun e s' => ∃ n, P n e s') → ∃ n, wpC C c s (P n)
  | .skip, s, P, hP, h => h
  | .ops l kill, s, P, hP, h => by
    rw [wpC] at h
    cases he : evOps C l s with
    | ok s' =>
      rw [he] at h
      obtain ⟨n, hn⟩ := h
      exact ⟨n, by rw [wpC, he]; exact hn⟩
    | fail => rw [he] at h; exact h.elim
    | vac => exact ⟨0, by rw [wpC, he]; trivial⟩
  | .seq a b, s, P, hP, h => by
    rw [wpC] at h
    obtain ⟨n, hn⟩ := wpC_ex a s (fun n e s' => match e with | .normal => wpC C b s' (P n) | e => P n e s') (by
      intro n e s' he
      cases e with
      | normal => exact wpC_mono b s' _ _ (fun e s => hP n e s) he
      | exit id => exact hP n _ _ he
      | ret => exact hP n _ _ he) (wpC_mono a s _ _ (by
      intro e s' he
      cases e with
      | normal => exact wpC_ex b s' P hP he
      | exit id => exact he
      | ret => exact he) h)
    exact ⟨n, by rw [wpC]; exact hn⟩
  | .cond c a b, s, P, hP, h => by
    rw [wpC] at h
    cases hc : opv s c with
    | bool t =>
      rw [hc] at h
      cases t with
      | true =>
        obtain ⟨n, hn⟩ := wpC_ex a s P hP (h.1 rfl)
        exact ⟨n, by rw [wpC, hc]; exact ⟨fun _ => hn, fun e => by cases e⟩⟩
      | false =>
        obtain ⟨n, hn⟩ := wpC_ex b s P hP (h.2 rfl)
        exact ⟨n, by rw [wpC, hc]; exact ⟨fun e => by (cases e), fun _ => hn⟩⟩
    | _ => rw [hc] at h; exact h.elim
  | .block id c, s, P, hP, h => by
    rw [wpC] at h
    obtain ⟨n, hn⟩ := wpC_ex c s (fun n e s' => match e with | .exit id' => if id' = id then P n .normal s' else P n (.exit id') s' | e => P n e s') (by
      intro n e s' he
      cases e with
      | normal => exact hP n _ _ he
      | exit id' =>
        simp only at he ⊢
        split
        · rw [if_pos ‹_›] at he; exact hP n _ _ he
        · rw [if_neg ‹_›] at he; exact hP n _ _ he
      | ret => exact hP n _ _ he) (wpC_mono c s _ _ (by
      intro e s' he
      cases e with
      | normal => exact he
      | exit id' =>
        simp only at he ⊢
        split at he
        · obtain ⟨n, hn⟩ := he; exact ⟨n, by rw [if_pos ‹_›]; exact hn⟩
        · obtain ⟨n, hn⟩ := he; exact ⟨n, by rw [if_neg ‹_›]; exact hn⟩
      | ret => exact he) h)
    exact ⟨n, by rw [wpC]; exact hn⟩
  | .loop c, s, P, hP, h => by
    rw [wpC] at h
    obtain ⟨m, hm⟩ := h
    have key : ∀ (m : Nat) (s : St), iter (wpC C c) m s (fun e s' => ∃ n, P n e s') → ∃ n, iter (wpC C c) m s (P n) := by
      intro m
      induction m with
      | zero => intro s h; exact h.elim
      | succ m ih =>
        intro s h
        rw [iter] at h
        obtain ⟨n, hn⟩ := wpC_ex c s (fun n e s' => match e with | .normal => iter (wpC C c) m s' (P n) | e => P n e s') (by
          intro n e s' he
          cases e with
          | normal => exact iter_mono (fun s Q Q' => wpC_mono c s Q Q') (fun e s => hP n e s) m s' he
          | exit id => exact hP n _ _ he
          | ret => exact hP n _ _ he) (wpC_mono c s _ _ (by
          intro e s' he
          cases e with
          | normal => exact ih s' he
          | exit id => exact he
          | ret => exact he) h)
        exact ⟨n, by rw [iter]; exact hn⟩
    obtain ⟨n, hn⟩ := key m s hm
    exact ⟨n, by rw [wpC]; exact ⟨m, hn⟩⟩
  | .keep kt kh c, s, P, hP, h => wpC_ex c _ P hP h
  | .exit id, s, P, hP, h => h
  | .ret, s, P, hP, h => h

theorem iter_succ (c : ACode) : ∀ (n : Nat) (s : St) (Q : Post), iter (wpC C c) n s Q → iter (wpC C c) (n + 1) s Q
  | 0, _, _, h => h.elim
  | n + 1, s, Q, h => by
    rw [iter] at h ⊢
    refine wpC_mono c s _ _ ?_ h
    intro e s' he
    cases e with
    | normal => exact iter_succ c n s' Q he
    | exit id => exact he
    | ret => exact he

/-- one round more -/
theorem run_round (c : ACode) : run C (.loop c) k s Q = run C c (.lp c :: k) s Q := by
  apply propext
  unfold run
  rw [wpC]
  constructor
  · rintro ⟨n, hn⟩
    cases n with
    | zero => exact hn.elim
    | succ n =>
      rw [iter] at hn
      refine wpC_mono c s _ _ ?_ hn
      intro e s' he
      cases e with
      | normal => show wpC C (.loop c) s' _; rw [wpC]; exact ⟨n, he⟩
      | exit id => exact he
      | ret => exact he
  · intro h
    obtain ⟨n, hn⟩ := wpC_ex c s (fun n e s' => match e with | .normal => iter (wpC C c) n s' (kont C k Q) | e => kont C k Q e s') (by
      intro n e s' he
      cases e with
      | normal => exact iter_succ c n s' _ he
      | exit id => exact he
      | ret => exact he) (wpC_mono c s _ _ (by
      intro e s' he
      cases e with
      | normal => exact he
      | exit id => exact ⟨0, he⟩
      | ret => exact ⟨0, he⟩) h)
    exact ⟨n + 1, by rw [iter]; exact hn⟩
theorem kont_lp (b : ACode) : kont C (.lp b :: k) Q .normal s = run C (.loop b) k s Q := rfl
theorem kont_lp_ret (b : ACode) : kont C (.lp b :: k) Q .ret s = kont C k Q .ret s := rfl
theorem kont_lp_exit (b : ACode) (id : Nat) : kont C (.lp b :: k) Q (.exit id) s = kont C k Q (.exit id) s := rfl

end Go.Am
