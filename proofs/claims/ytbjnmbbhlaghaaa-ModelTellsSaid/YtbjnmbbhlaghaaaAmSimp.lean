/- AM: one equation an operation. -/
import Derived.Test.YtbjnmbbhlaghaaaAmRules
namespace Go.Am
variable {C : Cs} {s : St} {dst : Option Nat} {gd : Option (Nat × Bool)} {fp : List Nat}

@[simp] theorem eff_mv (x : _) : eff C s ⟨dst, .mv x, gd, fp⟩ = (val (opv s x)) := rfl
@[simp] theorem eff_pick (c : _) (a : _) (b : _) : eff C s ⟨dst, .pick c a b, gd, fp⟩ = (match opv s c with
    | .bool t => val (if t then opv s a else opv s b)
    | _ => .fail) := rfl
@[simp] theorem eff_alloc (z : _) : eff C s ⟨dst, .alloc z, gd, fp⟩ = (match dst with
    | some d => .ok { v := some (.ptr d (s.g d + 1) 0), nw := some (d, ⟨z, false, 0⟩) }
    | none => .fail) := rfl
@[simp] theorem eff_box (x : _) (n : _) : eff C s ⟨dst, .box x n, gd, fp⟩ = (match dst, (opv s x).cells with
    | some d, some cs => if cs.length = n then .ok { v := some (.ptr d (s.g d + 1) 0), nw := some (d, ⟨cs, false, 0⟩) } else .fail
    | _, _ => .fail) := rfl
@[simp] theorem eff_build (z : _) (ps : _) : eff C s ⟨dst, .build z ps, gd, fp⟩ = (match fill s z ps with
    | some cs => val (.agg cs)
    | none => .fail) := rfl
@[simp] theorem eff_mkrow (d : _) (len : _) (sz : _) (z : _) (ps : _) : eff C s ⟨dst, .mkrow d len sz z ps, gd, fp⟩ = (match fill s (rep len z) ps with
    | some cs => .ok { v := some (.own d (s.g d + 1) 0 len), nw := some (d, ⟨cs, false, sz⟩) }
    | none => .fail) := rfl
@[simp] theorem eff_nil0 (d : _) (sz : _) : eff C s ⟨dst, .nil0 d sz, gd, fp⟩ = (.ok { v := some (.own d (s.g d + 1) 0 0), nw := some (d, ⟨[], false, sz⟩) }) := rfl
@[simp] theorem eff_load (n : _) (agg : _) (x : _) : eff C s ⟨dst, .load n agg x, gd, fp⟩ = (match opv s x with
    | .ptr b g p => match blkAt s fp b g with
      | some k => valO (rd k.cs p n agg)
      | none => .fail
    | .ipt p cs => valO (rd cs p n agg)
    | _ => .fail) := rfl
@[simp] theorem eff_store (x : _) (n : _) (v : _) : eff C s ⟨dst, .store x n v, gd, fp⟩ = (match opv s x with
    | .ptr b g p => match blkAt s fp b g, (opv s v).cells with
      | some k, some vs => if vs.length = n ∧ p + n ≤ k.cs.length ∧ k.frz = false ∧ vs.all AV.isCell = true then .ok { st := some (b, { k with cs := wr k.cs p vs }) } else .fail
      | _, _ => .fail
    | _ => .fail) := rfl
@[simp] theorem eff_fad (x : _) (off : _) : eff C s ⟨dst, .fad x off, gd, fp⟩ = (match opv s x with
    | .ptr b g p => match blkAt s fp b g with
      | some _ => val (.ptr b g (p + off))
      | none => .fail
    | .ipt p cs => val (.ipt (p + off) cs)
    | _ => .fail) := rfl
@[simp] theorem eff_iad (x : _) (i : _) (sz : _) (len : _) : eff C s ⟨dst, .iad x i sz len, gd, fp⟩ = (match opv s i with
    | .int _ n => match offOf n len sz with
      | some q => match opv s x with
        | .ptr b g p => match blkAt s fp b g with
          | some _ => val (.ptr b g (p + q))
          | none => .fail
        | .ipt p cs => val (.ipt (p + q) cs)
        | _ => .fail
      | none => .fail
    | _ => .fail) := rfl
@[simp] theorem eff_ias (x : _) (i : _) (sz : _) : eff C s ⟨dst, .ias x i sz, gd, fp⟩ = (match opv s i with
    | .int _ n => match opv s x with
      | .own b g p len => match blkAt s fp b g, offOf n len sz with
        | some _, some q => val (.ptr b g (p + q))
        | _, _ => .fail
      | .lst len cs => match offOf n len sz with
        | some q => val (.ipt q cs)
        | none => .fail
      | _ => .fail
    | _ => .fail) := rfl
@[simp] theorem eff_fld (x : _) (off : _) (n : _) (agg : _) : eff C s ⟨dst, .fld x off n agg, gd, fp⟩ = (match opv s x with
    | .agg cs => valO (rd cs off n agg)
    | _ => .fail) := rfl
@[simp] theorem eff_idx (x : _) (i : _) (sz : _) (len : _) (agg : _) : eff C s ⟨dst, .idx x i sz len agg, gd, fp⟩ = (match opv s x, opv s i with
    | .agg cs, .int _ n => match offOf n len sz with
      | some q => valO (rd cs q sz agg)
      | none => .fail
    | _, _ => .fail) := rfl
@[simp] theorem eff_bin (op : _) (x : _) (y : _) : eff C s ⟨dst, .bin op x y, gd, fp⟩ = (valO (bin2 op (opv s x) (opv s y))) := rfl
@[simp] theorem eff_eqa (neg : _) (ks : _) (x : _) (y : _) : eff C s ⟨dst, .eqa neg ks x y, gd, fp⟩ = (match opv s x, opv s y with
    | .agg a, .agg b => match eqs ks a b with
      | some t => val (.bool (if neg then !t else t))
      | none => .fail
    | _, _ => .fail) := rfl
@[simp] theorem eff_eqb (neg : _) (x : _) (y : _) : eff C s ⟨dst, .eqb neg x y, gd, fp⟩ = (match opv s x, opv s y with
    | .bool a, .bool b => val (.bool (if neg then a != b else a == b))
    | _, _ => .fail) := rfl
@[simp] theorem eff_un (op : _) (x : _) : eff C s ⟨dst, .un op x, gd, fp⟩ = (valO (un1 op (opv s x))) := rfl
@[simp] theorem eff_conv (k : _) (x : _) : eff C s ⟨dst, .conv k x, gd, fp⟩ = (match opv s x with
    | .int _ n => val (.int k (k.wrap n))
    | _ => .fail) := rfl
@[simp] theorem eff_ext (x : _) (i : _) : eff C s ⟨dst, .ext x i, gd, fp⟩ = (match opv s x with
    | .tup vs => valO vs[i]?
    | _ => .fail) := rfl
@[simp] theorem eff_call (f : _) (args : _) : eff C s ⟨dst, .call f args, gd, fp⟩ = (match pureVs s fp (args.map (opv s)) with
    | some (vs, fz) => match C f vs with
      | some r => .ok { v := some r, fz := fz }
      | none => .fail
    | none => .fail) := rfl
@[simp] theorem eff_dyn (x : _) (args : _) : eff C s ⟨dst, .dyn x args, gd, fp⟩ = (match opv s x with
    | .clo f cp => if f < 1000000 then (match pureVs s fp (args.map (opv s)) with
      | some (vs, fz) => match C f (vs ++ cp) with
        | some r => .ok { v := some r, fz := fz }
        | none => .fail
      | none => .fail) else .fail
    | _ => .fail) := rfl
@[simp] theorem eff_app (d : _) (ws : _) (x : _) (y : _) (sz : _) : eff C s ⟨dst, .app d ws x y sz, gd, fp⟩ = (match shows s fp sz (opv s y) with
    | some (m, ys) => match opv s x with
      | .nils => if m = 0 then val .nils else
          if m ≤ 1099511627776 ∧ ys.all AV.isCell = true then .ok { v := some (.own d (s.g d + 1) 0 m), nw := some (d, ⟨ys, false, sz⟩) } else .fail
      | .own b g p n => if ws.contains b then (match blkAt s fp b g with
        | some k => if p = 0 ∧ n * sz ≤ k.cs.length ∧ k.frz = false ∧ k.esz = sz ∧ n + m ≤ 1099511627776 ∧ ys.all AV.isCell = true then
            .ok { v := some (.own d (s.g d + 1) 0 (n + m)), rm := some b, nw := some (d, ⟨k.cs.take (n * sz) ++ ys, false, sz⟩) } else .fail
        | none => .fail) else .fail
      | _ => .fail
    | none => .fail) := rfl
@[simp] theorem eff_len (x : _) : eff C s ⟨dst, .len x, gd, fp⟩ = (match opv s x with
    | .own b g _ n => match blkAt s fp b g with
      | some _ => if n ≤ maxN then val (.int .i64 n) else .vac
      | none => .fail
    | .lst n _ => if n ≤ maxN then val (.int .i64 n) else .vac
    | .nils => val (.int .i64 0)
    | _ => .fail) := rfl
@[simp] theorem eff_mnmx (mx : _) (x : _) (y : _) : eff C s ⟨dst, .mnmx mx x y, gd, fp⟩ = (match opv s x, opv s y with
    | .int k a, .int k' b => if k = k' then val (.int k (if mx then (if b > a then b else a) else (if b < a then b else a))) else .fail
    | _, _ => .fail) := rfl
@[simp] theorem eff_mks (d : _) (n : _) (sz : _) (z : _) : eff C s ⟨dst, .mks d n sz z, gd, fp⟩ = (match opv s n with
    | .int _ m => if 0 ≤ m ∧ m ≤ 1099511627776 then .ok { v := some (.own d (s.g d + 1) 0 m.toNat), nw := some (d, ⟨rep m.toNat z, false, sz⟩) } else .fail
    | _ => .fail) := rfl
@[simp] theorem eff_sl (x : _) (lo : _) (hi : _) (sz : _) : eff C s ⟨dst, .sl x lo hi sz, gd, fp⟩ = (match opv s x with
    | .own b g p n => match blkAt s fp b g, bounds s n lo hi with
      | some _, some (l, h) => val (.own b g (p + l * sz) (h - l))
      | _, _ => .fail
    | .lst n xs => match bounds s n lo hi with
      | some (l, h) => val (.lst (h - l) ((xs.drop (l * sz)).take ((h - l) * sz)))
      | none => .fail
    | .nils => match bounds s 0 lo hi with
      | some _ => val .nils
      | none => .fail
    | _ => .fail) := rfl
@[simp] theorem eff_clear (x : _) (sz : _) (z : _) : eff C s ⟨dst, .clear x sz z, gd, fp⟩ = (match opv s x with
    | .own b g p n => match blkAt s fp b g with
      | some k => if p + n * sz ≤ k.cs.length ∧ k.frz = false then .ok { st := some (b, { k with cs := wr k.cs p (rep n z) }) } else .fail
      | none => .fail
    | .nils => .ok {}
    | _ => .fail) := rfl
@[simp] theorem eff_clo (f : _) (cs : _) : eff C s ⟨dst, .clo f cs, gd, fp⟩ = (match caps s fp (cs.map (opv s)) with
    | some (vs, fz) => .ok { v := some (.clo f vs), fz := fz }
    | none => .fail) := rfl
@[simp] theorem eff_chk (x : _) : eff C s ⟨dst, .chk x, gd, fp⟩ = (match opv s x with
    | .ptr b g p => match blkAt s fp b g with
      | some _ => val (.ptr b g p)
      | none => .fail
    | .ipt p cs => val (.ipt p cs)
    | _ => .fail) := rfl
@[simp] theorem eff_mkmap  : eff C s ⟨dst, .mkmap , gd, fp⟩ = (match dst with
    | some d => .ok { v := some (.mp d (s.g d + 1)), nw := some (d, ⟨[], false, mapTag⟩) }
    | none => .fail) := rfl
@[simp] theorem eff_mget (x : _) (k : _) (z : _) : eff C s ⟨dst, .mget x k z, gd, fp⟩ = (match opv s x, opv s k with
    | .mp b g, .int .i64 n => match mapAt s fp b g with
      | some q => val (mgetV n q.cs z)
      | none => .fail
    | _, _ => .fail) := rfl
@[simp] theorem eff_ment (x : _) (k : _) (z : _) : eff C s ⟨dst, .ment x k z, gd, fp⟩ = (match opv s x, opv s k with
    | .mp b g, .int .i64 n => match mapAt s fp b g with
      | some q => if q.frz = false then (match mfind n q.cs 0 with
        | some (i, v) => .ok { v := some (.tup [v, .int .i64 i]), st := some (b, q) }
        | none => .ok { v := some (.tup [z, .int .i64 (q.cs.length / 2 : Nat)]), st := some (b, { q with cs := q.cs ++ [.int .i64 n, z] }) }) else .fail
      | none => .fail
    | _, _ => .fail) := rfl
@[simp] theorem eff_mset (x : _) (t : _) (v : _) : eff C s ⟨dst, .mset x t v, gd, fp⟩ = (match opv s x, opv s t with
    | .mp b g, .int .i64 i => match mapAt s fp b g with
      | some q => if q.frz = false ∧ 0 ≤ i ∧ 2 * i.toNat + 1 < q.cs.length ∧ (opv s v).flat = true then .ok { st := some (b, { q with cs := wr q.cs (2 * i.toNat + 1) [opv s v] }) } else .fail
      | none => .fail
    | _, _ => .fail) := rfl
@[simp] theorem eff_mupd (x : _) (k : _) (v : _) : eff C s ⟨dst, .mupd x k v, gd, fp⟩ = (match opv s x, opv s k with
    | .mp b g, .int .i64 n => match mapAt s fp b g with
      | some q => if q.frz = false ∧ (opv s v).flat = true then .ok { st := some (b, { q with cs := mputV n q.cs (opv s v) }) } else .fail
      | none => .fail
    | _, _ => .fail) := rfl
@[simp] theorem eff_frz (x : _) : eff C s ⟨dst, .frz x, gd, fp⟩ = (match pureV s fp (opv s x) with
    | some (v, fz) => .ok { v := some v, fz := fz }
    | none => .fail) := rfl
@[simp] theorem eff_gcall (f : _) (args : _) (bs : _) (nid : _) : eff C s ⟨dst, .gcall f args bs nid, gd, fp⟩ = (match mapO (garg s fp bs) (args.map (opv s)), gblks s fp bs bs 0 with
    | some (vs, fz), some h => if fz.all (fun b => !bs.contains b) = true then (match C (1000000 + f) (vs ++ [.tup (encs h)]) with
      | some (.tup (r :: out)) => match decs out with
        | some h' => geff s bs nid fz r h'
        | none => .fail
      | _ => .fail) else .fail
    | _, _ => .fail) := rfl

end Go.Am
