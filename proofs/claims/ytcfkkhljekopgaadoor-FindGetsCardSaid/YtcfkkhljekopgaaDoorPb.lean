/- Walks of functions, printed by a program of this session (gen.py) from notes on each function. -/
import Derived.Test.YtcfkkhljekopgaaDoorPa
set_option maxRecDepth 100000
set_option maxHeartbeats 1000000
set_option linter.unusedVariables false
set_option linter.unusedSimpArgs false
namespace Go.Sp.Tryd
open Go.Proofs Go.RowKit Go.Sp

def kindOf (l : List UInt8) : Int := match l with
  | [] => -1
  | x :: xs => if (x.toNat ≤ 1 ∧ xs.length = 64) ∨ x.toNat = 2 ∨ (x.toNat = 3 ∧ xs.length = 0) then x.toNat else -1
theorem kindOf_pos {l : List UInt8} (h : 0 < l.length) : kindOf l = if (l[0].toNat ≤ 1 ∧ l.length = 65) ∨ l[0].toNat = 2 ∨ (l[0].toNat = 3 ∧ l.length = 1) then (l[0].toNat : Int) else -1 := by
  cases l with
  | nil => cases h
  | cons x xs => simp [kindOf]
theorem kindOf_nil {l : List UInt8} (h : l.length = 0) : kindOf l = -1 := by
  cases l with
  | nil => rfl
  | cons x xs => cases h

theorem Kind_c {X : Nat → Prop} {w : World} {a : Value} {la : List UInt8} (hX : ∀ b, X b → b < w.heap.size) (hf0 : Rob X (SlB a la) w) (hla : la.length ≤ 9223372036854775807) :
    Ret Tryd.prog 66 [a].toArray w fun v w' => v = .int .i64 (kindOf la) ∧ Out Nil w w' := by
  refine Ret.of_body (N := 35) Tryd.func66 rfl rfl (by simp) ?_
  have H := St.begin hX
  replace H := H.add (rob0 hf0)
  refine WE.seq_reg ?_
  refine WL.as rfl rfl ?_
  refine WL.nil ?_
  refine WE.seq ?_
  refine WE.seq_reg ?_
  refine WL.mv rfl rfl ?_
  refine WL.pv (PV.lenS (H.p 0 rfl) TrydT.sl33 rfl) rfl ?_
  refine WL.pv (PV.eql rfl rfl rfl) rfl ?_
  refine WL.nil ?_
  refine WE.cond rfl (fun hc7 => ?_) (fun hc7 => ?_)
  · skip
    try simp only [decide_eq_true_eq, decide_eq_false_iff_not, ne_eq, Decidable.not_not, Bool.not_eq_true', Bool.not_eq_false', Bool.and_eq_true, Bool.or_eq_true, Bool.not_not, Bool.and_eq_false_iff, Bool.or_eq_false_iff, Int.not_lt, Int.not_le] at hc7
    have hnil : la.length = 0 := by omega
    refine WE.seq_reg ?_
    refine WL.as rfl rfl ?_
    refine WL.nil ?_
    refine WE.ret ?_
    refine ⟨[_], _, .nil _, ⟨rfl, trivial⟩, ?_⟩
    rw [kindOf_nil hnil]
    exact ⟨rfl, H.toOut0⟩
  · skip
    try simp only [decide_eq_true_eq, decide_eq_false_iff_not, ne_eq, Decidable.not_not, Bool.not_eq_true', Bool.not_eq_false', Bool.and_eq_true, Bool.or_eq_true, Bool.not_not, Bool.and_eq_false_iff, Bool.or_eq_false_iff, Int.not_lt, Int.not_le] at hc7
    have hpos : 0 < la.length := by omega
    have hb := la[0].toNat_lt
    refine WE.skip ?_
    refine WE.seq_reg ?_
    refine WL.mv rfl rfl ?_
    refine WL.pv (PV.lenS (H.p 0 rfl) TrydT.sl33 rfl) rfl ?_
    refine WL.as rfl rfl ?_
    refine WL.as rfl rfl ?_
    refine WL.nil ?_
    refine WE.seq ?_
    refine WE.seq_reg ?_
    refine WL.mv rfl rfl ?_
    refine WL.pv (PV.idxS rfl (H.p 0 rfl) TrydT.sl33 TrydT.sz5 rfl rfl (by omega) (by omega)) rfl ?_
    refine WL.load1 rfl TrydT.ag5 rfl rfl (SlB.rd (H.p 0 rfl) 0 hpos) ?_
    refine WL.nil ?_
    refine WE.block ?_
    refine WE.seq ?_
    refine WE.block ?_
    refine WE.seq ?_
    refine WE.block ?_
    refine WE.seq ?_
    refine WE.block ?_
    refine WE.seq ?_
    refine WE.seq ?_
    refine WE.seq ?_
    refine WE.seq_reg ?_
    refine WL.pv (PV.eql rfl rfl rfl) rfl ?_
    refine WL.as rfl rfl ?_
    refine WL.nil ?_
    refine WE.cond rfl (fun hc13 => ?_) (fun hc13 => ?_)
    · skip
      try simp only [decide_eq_true_eq, decide_eq_false_iff_not, ne_eq, Decidable.not_not, Bool.not_eq_true', Bool.not_eq_false', Bool.and_eq_true, Bool.or_eq_true, Bool.not_not, Bool.and_eq_false_iff, Bool.or_eq_false_iff, Int.not_lt, Int.not_le] at hc13
      refine WE.skip ?_
      refine WE.cond rfl (fun hc13 => ?_) (fun hc13 => ?_)
      · skip
        try simp only [decide_eq_true_eq, decide_eq_false_iff_not, ne_eq, Decidable.not_not, Bool.not_eq_true', Bool.not_eq_false', Bool.and_eq_true, Bool.or_eq_true, Bool.not_not, Bool.and_eq_false_iff, Bool.or_eq_false_iff, Int.not_lt, Int.not_le] at hc13
        refine WE.exit ?_
        refine WE.reg ?_
        refine WL.as rfl rfl ?_
        refine WL.nil ?_
        refine WE.reg ?_
        refine WL.mv rfl rfl ?_
        refine WL.as rfl rfl ?_
        refine WL.nil ?_
        refine WE.seq ?_
        refine WE.seq_reg ?_
        refine WL.mv rfl rfl ?_
        refine WL.pv (PV.lenS (H.p 0 rfl) TrydT.sl33 rfl) rfl ?_
        refine WL.mv rfl rfl ?_
        refine WL.pv (PV.geq rfl rfl rfl) rfl ?_
        refine WL.mv rfl rfl ?_
        refine WL.split (t := 25) rfl (fun hg25 => ?_) (fun hg25 => ?_)
        · skip
          refine WL.known (t := 24) (c := true) rfl hg25 ?_
          try simp only [decide_eq_true_eq, decide_eq_false_iff_not, ne_eq, Decidable.not_not, Bool.not_eq_true', Bool.not_eq_false', Bool.and_eq_true, Bool.or_eq_true, Bool.not_not, Bool.and_eq_false_iff, Bool.or_eq_false_iff, Int.not_lt, Int.not_le] at hg25
          refine WL.mv rfl rfl ?_
          refine WL.pv (PV.lenS (H.p 0 rfl) TrydT.sl33 rfl) rfl ?_
          refine WL.mv rfl rfl ?_
          refine WL.pv (PV.leq rfl rfl rfl) rfl ?_
          refine WL.pv (PV.pick_t rfl rfl rfl) rfl ?_
          refine WL.nil ?_
          refine WE.cond rfl (fun hc30 => ?_) (fun hc30 => ?_)
          · skip
            try simp only [decide_eq_true_eq, decide_eq_false_iff_not, ne_eq, Decidable.not_not, Bool.not_eq_true', Bool.not_eq_false', Bool.and_eq_true, Bool.or_eq_true, Bool.not_not, Bool.and_eq_false_iff, Bool.or_eq_false_iff, Int.not_lt, Int.not_le] at hc30
            refine WE.seq_reg ?_
            refine WL.mv rfl rfl ?_
            refine WL.pv (PV.idxS rfl (H.p 0 rfl) TrydT.sl33 TrydT.sz5 rfl rfl (by omega) (by omega)) rfl ?_
            refine WL.load1 rfl TrydT.ag5 rfl rfl (SlB.rd (H.p 0 rfl) 0 hpos) ?_
            refine WL.pv (PV.conv64 rfl TrydT.in5 TrydT.in3 rfl (by omega) (by omega)) rfl ?_
            refine WL.as rfl rfl ?_
            refine WL.nil ?_
            refine WE.ret ?_
            refine ⟨[_], _, .nil _, ⟨rfl, trivial⟩, ?_⟩
            rw [kindOf_pos hpos, if_pos (by omega)]
            exact ⟨rfl, H.toOut0⟩
          · skip
            try simp only [decide_eq_true_eq, decide_eq_false_iff_not, ne_eq, Decidable.not_not, Bool.not_eq_true', Bool.not_eq_false', Bool.and_eq_true, Bool.or_eq_true, Bool.not_not, Bool.and_eq_false_iff, Bool.or_eq_false_iff, Int.not_lt, Int.not_le] at hc30
            refine WE.skip ?_
            refine WE.exit ?_
            refine WE.seq_reg ?_
            refine WL.as rfl rfl ?_
            refine WL.nil ?_
            refine WE.ret ?_
            refine ⟨[_], _, .nil _, ⟨rfl, trivial⟩, ?_⟩
            rw [kindOf_pos hpos, if_neg (by omega)]
            exact ⟨rfl, H.toOut0⟩
        · skip
          refine WL.known (t := 24) (c := false) rfl hg25 ?_
          try simp only [decide_eq_true_eq, decide_eq_false_iff_not, ne_eq, Decidable.not_not, Bool.not_eq_true', Bool.not_eq_false', Bool.and_eq_true, Bool.or_eq_true, Bool.not_not, Bool.and_eq_false_iff, Bool.or_eq_false_iff, Int.not_lt, Int.not_le] at hg25
          refine WL.off rfl ?_
          refine WL.off rfl ?_
          refine WL.off rfl ?_
          refine WL.off rfl ?_
          refine WL.pv (PV.pick_f rfl rfl rfl) rfl ?_
          refine WL.nil ?_
          refine WE.cond_f rfl ?_
          refine WE.skip ?_
          refine WE.exit ?_
          refine WE.seq_reg ?_
          refine WL.as rfl rfl ?_
          refine WL.nil ?_
          refine WE.ret ?_
          refine ⟨[_], _, .nil _, ⟨rfl, trivial⟩, ?_⟩
          rw [kindOf_pos hpos, if_neg (by omega)]
          exact ⟨rfl, H.toOut0⟩
      · skip
        try simp only [decide_eq_true_eq, decide_eq_false_iff_not, ne_eq, Decidable.not_not, Bool.not_eq_true', Bool.not_eq_false', Bool.and_eq_true, Bool.or_eq_true, Bool.not_not, Bool.and_eq_false_iff, Bool.or_eq_false_iff, Int.not_lt, Int.not_le] at hc13
        refine WE.skip ?_
        refine WE.seq ?_
        refine WE.seq_reg ?_
        refine WL.pv (PV.eql rfl rfl rfl) rfl ?_
        refine WL.as rfl rfl ?_
        refine WL.nil ?_
        refine WE.cond rfl (fun hc16 => ?_) (fun hc16 => ?_)
        · skip
          try simp only [decide_eq_true_eq, decide_eq_false_iff_not, ne_eq, Decidable.not_not, Bool.not_eq_true', Bool.not_eq_false', Bool.and_eq_true, Bool.or_eq_true, Bool.not_not, Bool.and_eq_false_iff, Bool.or_eq_false_iff, Int.not_lt, Int.not_le] at hc16
          refine WE.exit ?_
          refine WE.reg ?_
          refine WL.mv rfl rfl ?_
          refine WL.as rfl rfl ?_
          refine WL.nil ?_
          refine WE.seq ?_
          refine WE.seq_reg ?_
          refine WL.mv rfl rfl ?_
          refine WL.pv (PV.lenS (H.p 0 rfl) TrydT.sl33 rfl) rfl ?_
          refine WL.mv rfl rfl ?_
          refine WL.pv (PV.geq rfl rfl rfl) rfl ?_
          refine WL.mv rfl rfl ?_
          refine WL.split (t := 25) rfl (fun hg25 => ?_) (fun hg25 => ?_)
          · skip
            refine WL.known (t := 24) (c := true) rfl hg25 ?_
            try simp only [decide_eq_true_eq, decide_eq_false_iff_not, ne_eq, Decidable.not_not, Bool.not_eq_true', Bool.not_eq_false', Bool.and_eq_true, Bool.or_eq_true, Bool.not_not, Bool.and_eq_false_iff, Bool.or_eq_false_iff, Int.not_lt, Int.not_le] at hg25
            refine WL.mv rfl rfl ?_
            refine WL.pv (PV.lenS (H.p 0 rfl) TrydT.sl33 rfl) rfl ?_
            refine WL.mv rfl rfl ?_
            refine WL.pv (PV.leq rfl rfl rfl) rfl ?_
            refine WL.pv (PV.pick_t rfl rfl rfl) rfl ?_
            refine WL.nil ?_
            refine WE.cond rfl (fun hc30 => ?_) (fun hc30 => ?_)
            · skip
              try simp only [decide_eq_true_eq, decide_eq_false_iff_not, ne_eq, Decidable.not_not, Bool.not_eq_true', Bool.not_eq_false', Bool.and_eq_true, Bool.or_eq_true, Bool.not_not, Bool.and_eq_false_iff, Bool.or_eq_false_iff, Int.not_lt, Int.not_le] at hc30
              refine WE.seq_reg ?_
              refine WL.mv rfl rfl ?_
              refine WL.pv (PV.idxS rfl (H.p 0 rfl) TrydT.sl33 TrydT.sz5 rfl rfl (by omega) (by omega)) rfl ?_
              refine WL.load1 rfl TrydT.ag5 rfl rfl (SlB.rd (H.p 0 rfl) 0 hpos) ?_
              refine WL.pv (PV.conv64 rfl TrydT.in5 TrydT.in3 rfl (by omega) (by omega)) rfl ?_
              refine WL.as rfl rfl ?_
              refine WL.nil ?_
              refine WE.ret ?_
              refine ⟨[_], _, .nil _, ⟨rfl, trivial⟩, ?_⟩
              rw [kindOf_pos hpos, if_pos (by omega)]
              exact ⟨rfl, H.toOut0⟩
            · skip
              try simp only [decide_eq_true_eq, decide_eq_false_iff_not, ne_eq, Decidable.not_not, Bool.not_eq_true', Bool.not_eq_false', Bool.and_eq_true, Bool.or_eq_true, Bool.not_not, Bool.and_eq_false_iff, Bool.or_eq_false_iff, Int.not_lt, Int.not_le] at hc30
              refine WE.skip ?_
              refine WE.exit ?_
              refine WE.seq_reg ?_
              refine WL.as rfl rfl ?_
              refine WL.nil ?_
              refine WE.ret ?_
              refine ⟨[_], _, .nil _, ⟨rfl, trivial⟩, ?_⟩
              rw [kindOf_pos hpos, if_neg (by omega)]
              exact ⟨rfl, H.toOut0⟩
          · skip
            refine WL.known (t := 24) (c := false) rfl hg25 ?_
            try simp only [decide_eq_true_eq, decide_eq_false_iff_not, ne_eq, Decidable.not_not, Bool.not_eq_true', Bool.not_eq_false', Bool.and_eq_true, Bool.or_eq_true, Bool.not_not, Bool.and_eq_false_iff, Bool.or_eq_false_iff, Int.not_lt, Int.not_le] at hg25
            refine WL.off rfl ?_
            refine WL.off rfl ?_
            refine WL.off rfl ?_
            refine WL.off rfl ?_
            refine WL.pv (PV.pick_f rfl rfl rfl) rfl ?_
            refine WL.nil ?_
            refine WE.cond_f rfl ?_
            refine WE.skip ?_
            refine WE.exit ?_
            refine WE.seq_reg ?_
            refine WL.as rfl rfl ?_
            refine WL.nil ?_
            refine WE.ret ?_
            refine ⟨[_], _, .nil _, ⟨rfl, trivial⟩, ?_⟩
            rw [kindOf_pos hpos, if_neg (by omega)]
            exact ⟨rfl, H.toOut0⟩
        · skip
          try simp only [decide_eq_true_eq, decide_eq_false_iff_not, ne_eq, Decidable.not_not, Bool.not_eq_true', Bool.not_eq_false', Bool.and_eq_true, Bool.or_eq_true, Bool.not_not, Bool.and_eq_false_iff, Bool.or_eq_false_iff, Int.not_lt, Int.not_le] at hc16
          refine WE.skip ?_
          refine WE.seq_reg ?_
          refine WL.pv (PV.eql rfl rfl rfl) rfl ?_
          refine WL.as rfl rfl ?_
          refine WL.nil ?_
          refine WE.cond rfl (fun hc18 => ?_) (fun hc18 => ?_)
          · skip
            try simp only [decide_eq_true_eq, decide_eq_false_iff_not, ne_eq, Decidable.not_not, Bool.not_eq_true', Bool.not_eq_false', Bool.and_eq_true, Bool.or_eq_true, Bool.not_not, Bool.and_eq_false_iff, Bool.or_eq_false_iff, Int.not_lt, Int.not_le] at hc18
            refine WE.exit ?_
            refine WE.seq ?_
            refine WE.seq_reg ?_
            refine WL.mv rfl rfl ?_
            refine WL.pv (PV.lenS (H.p 0 rfl) TrydT.sl33 rfl) rfl ?_
            refine WL.mv rfl rfl ?_
            refine WL.pv (PV.geq rfl rfl rfl) rfl ?_
            refine WL.mv rfl rfl ?_
            refine WL.split (t := 25) rfl (fun hg25 => ?_) (fun hg25 => ?_)
            · skip
              refine WL.known (t := 24) (c := true) rfl hg25 ?_
              try simp only [decide_eq_true_eq, decide_eq_false_iff_not, ne_eq, Decidable.not_not, Bool.not_eq_true', Bool.not_eq_false', Bool.and_eq_true, Bool.or_eq_true, Bool.not_not, Bool.and_eq_false_iff, Bool.or_eq_false_iff, Int.not_lt, Int.not_le] at hg25
              refine WL.mv rfl rfl ?_
              refine WL.pv (PV.lenS (H.p 0 rfl) TrydT.sl33 rfl) rfl ?_
              refine WL.mv rfl rfl ?_
              refine WL.pv (PV.leq rfl rfl rfl) rfl ?_
              refine WL.pv (PV.pick_t rfl rfl rfl) rfl ?_
              refine WL.nil ?_
              refine WE.cond rfl (fun hc30 => ?_) (fun hc30 => ?_)
              · skip
                try simp only [decide_eq_true_eq, decide_eq_false_iff_not, ne_eq, Decidable.not_not, Bool.not_eq_true', Bool.not_eq_false', Bool.and_eq_true, Bool.or_eq_true, Bool.not_not, Bool.and_eq_false_iff, Bool.or_eq_false_iff, Int.not_lt, Int.not_le] at hc30
                refine WE.seq_reg ?_
                refine WL.mv rfl rfl ?_
                refine WL.pv (PV.idxS rfl (H.p 0 rfl) TrydT.sl33 TrydT.sz5 rfl rfl (by omega) (by omega)) rfl ?_
                refine WL.load1 rfl TrydT.ag5 rfl rfl (SlB.rd (H.p 0 rfl) 0 hpos) ?_
                refine WL.pv (PV.conv64 rfl TrydT.in5 TrydT.in3 rfl (by omega) (by omega)) rfl ?_
                refine WL.as rfl rfl ?_
                refine WL.nil ?_
                refine WE.ret ?_
                refine ⟨[_], _, .nil _, ⟨rfl, trivial⟩, ?_⟩
                rw [kindOf_pos hpos, if_pos (by omega)]
                exact ⟨rfl, H.toOut0⟩
              · skip
                try simp only [decide_eq_true_eq, decide_eq_false_iff_not, ne_eq, Decidable.not_not, Bool.not_eq_true', Bool.not_eq_false', Bool.and_eq_true, Bool.or_eq_true, Bool.not_not, Bool.and_eq_false_iff, Bool.or_eq_false_iff, Int.not_lt, Int.not_le] at hc30
                refine WE.skip ?_
                refine WE.exit ?_
                refine WE.seq_reg ?_
                refine WL.as rfl rfl ?_
                refine WL.nil ?_
                refine WE.ret ?_
                refine ⟨[_], _, .nil _, ⟨rfl, trivial⟩, ?_⟩
                rw [kindOf_pos hpos, if_neg (by omega)]
                exact ⟨rfl, H.toOut0⟩
            · skip
              refine WL.known (t := 24) (c := false) rfl hg25 ?_
              try simp only [decide_eq_true_eq, decide_eq_false_iff_not, ne_eq, Decidable.not_not, Bool.not_eq_true', Bool.not_eq_false', Bool.and_eq_true, Bool.or_eq_true, Bool.not_not, Bool.and_eq_false_iff, Bool.or_eq_false_iff, Int.not_lt, Int.not_le] at hg25
              refine WL.off rfl ?_
              refine WL.off rfl ?_
              refine WL.off rfl ?_
              refine WL.off rfl ?_
              refine WL.pv (PV.pick_f rfl rfl rfl) rfl ?_
              refine WL.nil ?_
              refine WE.cond_f rfl ?_
              refine WE.skip ?_
              refine WE.exit ?_
              refine WE.seq_reg ?_
              refine WL.as rfl rfl ?_
              refine WL.nil ?_
              refine WE.ret ?_
              refine ⟨[_], _, .nil _, ⟨rfl, trivial⟩, ?_⟩
              rw [kindOf_pos hpos, if_neg (by omega)]
              exact ⟨rfl, H.toOut0⟩
          · skip
            try simp only [decide_eq_true_eq, decide_eq_false_iff_not, ne_eq, Decidable.not_not, Bool.not_eq_true', Bool.not_eq_false', Bool.and_eq_true, Bool.or_eq_true, Bool.not_not, Bool.and_eq_false_iff, Bool.or_eq_false_iff, Int.not_lt, Int.not_le] at hc18
            refine WE.skip ?_
            refine WE.exit ?_
            refine WE.seq_reg ?_
            refine WL.as rfl rfl ?_
            refine WL.nil ?_
            refine WE.ret ?_
            refine ⟨[_], _, .nil _, ⟨rfl, trivial⟩, ?_⟩
            rw [kindOf_pos hpos, if_neg (by omega)]
            exact ⟨rfl, H.toOut0⟩
    · skip
      try simp only [decide_eq_true_eq, decide_eq_false_iff_not, ne_eq, Decidable.not_not, Bool.not_eq_true', Bool.not_eq_false', Bool.and_eq_true, Bool.or_eq_true, Bool.not_not, Bool.and_eq_false_iff, Bool.or_eq_false_iff, Int.not_lt, Int.not_le] at hc13
      refine WE.reg ?_
      refine WL.pv (PV.eql rfl rfl rfl) rfl ?_
      refine WL.as rfl rfl ?_
      refine WL.nil ?_
      refine WE.cond rfl (fun hc13 => ?_) (fun hc13 => ?_)
      · skip
        try simp only [decide_eq_true_eq, decide_eq_false_iff_not, ne_eq, Decidable.not_not, Bool.not_eq_true', Bool.not_eq_false', Bool.and_eq_true, Bool.or_eq_true, Bool.not_not, Bool.and_eq_false_iff, Bool.or_eq_false_iff, Int.not_lt, Int.not_le] at hc13
        refine WE.exit ?_
        refine WE.reg ?_
        refine WL.as rfl rfl ?_
        refine WL.nil ?_
        refine WE.reg ?_
        refine WL.mv rfl rfl ?_
        refine WL.as rfl rfl ?_
        refine WL.nil ?_
        refine WE.seq ?_
        refine WE.seq_reg ?_
        refine WL.mv rfl rfl ?_
        refine WL.pv (PV.lenS (H.p 0 rfl) TrydT.sl33 rfl) rfl ?_
        refine WL.mv rfl rfl ?_
        refine WL.pv (PV.geq rfl rfl rfl) rfl ?_
        refine WL.mv rfl rfl ?_
        refine WL.split (t := 25) rfl (fun hg25 => ?_) (fun hg25 => ?_)
        · skip
          refine WL.known (t := 24) (c := true) rfl hg25 ?_
          try simp only [decide_eq_true_eq, decide_eq_false_iff_not, ne_eq, Decidable.not_not, Bool.not_eq_true', Bool.not_eq_false', Bool.and_eq_true, Bool.or_eq_true, Bool.not_not, Bool.and_eq_false_iff, Bool.or_eq_false_iff, Int.not_lt, Int.not_le] at hg25
          refine WL.mv rfl rfl ?_
          refine WL.pv (PV.lenS (H.p 0 rfl) TrydT.sl33 rfl) rfl ?_
          refine WL.mv rfl rfl ?_
          refine WL.pv (PV.leq rfl rfl rfl) rfl ?_
          refine WL.pv (PV.pick_t rfl rfl rfl) rfl ?_
          refine WL.nil ?_
          refine WE.cond rfl (fun hc30 => ?_) (fun hc30 => ?_)
          · skip
            try simp only [decide_eq_true_eq, decide_eq_false_iff_not, ne_eq, Decidable.not_not, Bool.not_eq_true', Bool.not_eq_false', Bool.and_eq_true, Bool.or_eq_true, Bool.not_not, Bool.and_eq_false_iff, Bool.or_eq_false_iff, Int.not_lt, Int.not_le] at hc30
            refine WE.seq_reg ?_
            refine WL.mv rfl rfl ?_
            refine WL.pv (PV.idxS rfl (H.p 0 rfl) TrydT.sl33 TrydT.sz5 rfl rfl (by omega) (by omega)) rfl ?_
            refine WL.load1 rfl TrydT.ag5 rfl rfl (SlB.rd (H.p 0 rfl) 0 hpos) ?_
            refine WL.pv (PV.conv64 rfl TrydT.in5 TrydT.in3 rfl (by omega) (by omega)) rfl ?_
            refine WL.as rfl rfl ?_
            refine WL.nil ?_
            refine WE.ret ?_
            refine ⟨[_], _, .nil _, ⟨rfl, trivial⟩, ?_⟩
            rw [kindOf_pos hpos, if_pos (by omega)]
            exact ⟨rfl, H.toOut0⟩
          · skip
            try simp only [decide_eq_true_eq, decide_eq_false_iff_not, ne_eq, Decidable.not_not, Bool.not_eq_true', Bool.not_eq_false', Bool.and_eq_true, Bool.or_eq_true, Bool.not_not, Bool.and_eq_false_iff, Bool.or_eq_false_iff, Int.not_lt, Int.not_le] at hc30
            refine WE.skip ?_
            refine WE.exit ?_
            refine WE.seq_reg ?_
            refine WL.as rfl rfl ?_
            refine WL.nil ?_
            refine WE.ret ?_
            refine ⟨[_], _, .nil _, ⟨rfl, trivial⟩, ?_⟩
            rw [kindOf_pos hpos, if_neg (by omega)]
            exact ⟨rfl, H.toOut0⟩
        · skip
          refine WL.known (t := 24) (c := false) rfl hg25 ?_
          try simp only [decide_eq_true_eq, decide_eq_false_iff_not, ne_eq, Decidable.not_not, Bool.not_eq_true', Bool.not_eq_false', Bool.and_eq_true, Bool.or_eq_true, Bool.not_not, Bool.and_eq_false_iff, Bool.or_eq_false_iff, Int.not_lt, Int.not_le] at hg25
          refine WL.off rfl ?_
          refine WL.off rfl ?_
          refine WL.off rfl ?_
          refine WL.off rfl ?_
          refine WL.pv (PV.pick_f rfl rfl rfl) rfl ?_
          refine WL.nil ?_
          refine WE.cond_f rfl ?_
          refine WE.skip ?_
          refine WE.exit ?_
          refine WE.seq_reg ?_
          refine WL.as rfl rfl ?_
          refine WL.nil ?_
          refine WE.ret ?_
          refine ⟨[_], _, .nil _, ⟨rfl, trivial⟩, ?_⟩
          rw [kindOf_pos hpos, if_neg (by omega)]
          exact ⟨rfl, H.toOut0⟩
      · skip
        try simp only [decide_eq_true_eq, decide_eq_false_iff_not, ne_eq, Decidable.not_not, Bool.not_eq_true', Bool.not_eq_false', Bool.and_eq_true, Bool.or_eq_true, Bool.not_not, Bool.and_eq_false_iff, Bool.or_eq_false_iff, Int.not_lt, Int.not_le] at hc13
        refine WE.skip ?_
        refine WE.seq ?_
        refine WE.seq_reg ?_
        refine WL.pv (PV.eql rfl rfl rfl) rfl ?_
        refine WL.as rfl rfl ?_
        refine WL.nil ?_
        refine WE.cond rfl (fun hc16 => ?_) (fun hc16 => ?_)
        · skip
          try simp only [decide_eq_true_eq, decide_eq_false_iff_not, ne_eq, Decidable.not_not, Bool.not_eq_true', Bool.not_eq_false', Bool.and_eq_true, Bool.or_eq_true, Bool.not_not, Bool.and_eq_false_iff, Bool.or_eq_false_iff, Int.not_lt, Int.not_le] at hc16
          refine WE.exit ?_
          refine WE.reg ?_
          refine WL.mv rfl rfl ?_
          refine WL.as rfl rfl ?_
          refine WL.nil ?_
          refine WE.seq ?_
          refine WE.seq_reg ?_
          refine WL.mv rfl rfl ?_
          refine WL.pv (PV.lenS (H.p 0 rfl) TrydT.sl33 rfl) rfl ?_
          refine WL.mv rfl rfl ?_
          refine WL.pv (PV.geq rfl rfl rfl) rfl ?_
          refine WL.mv rfl rfl ?_
          refine WL.split (t := 25) rfl (fun hg25 => ?_) (fun hg25 => ?_)
          · skip
            refine WL.known (t := 24) (c := true) rfl hg25 ?_
            try simp only [decide_eq_true_eq, decide_eq_false_iff_not, ne_eq, Decidable.not_not, Bool.not_eq_true', Bool.not_eq_false', Bool.and_eq_true, Bool.or_eq_true, Bool.not_not, Bool.and_eq_false_iff, Bool.or_eq_false_iff, Int.not_lt, Int.not_le] at hg25
            refine WL.mv rfl rfl ?_
            refine WL.pv (PV.lenS (H.p 0 rfl) TrydT.sl33 rfl) rfl ?_
            refine WL.mv rfl rfl ?_
            refine WL.pv (PV.leq rfl rfl rfl) rfl ?_
            refine WL.pv (PV.pick_t rfl rfl rfl) rfl ?_
            refine WL.nil ?_
            refine WE.cond rfl (fun hc30 => ?_) (fun hc30 => ?_)
            · skip
              try simp only [decide_eq_true_eq, decide_eq_false_iff_not, ne_eq, Decidable.not_not, Bool.not_eq_true', Bool.not_eq_false', Bool.and_eq_true, Bool.or_eq_true, Bool.not_not, Bool.and_eq_false_iff, Bool.or_eq_false_iff, Int.not_lt, Int.not_le] at hc30
              refine WE.seq_reg ?_
              refine WL.mv rfl rfl ?_
              refine WL.pv (PV.idxS rfl (H.p 0 rfl) TrydT.sl33 TrydT.sz5 rfl rfl (by omega) (by omega)) rfl ?_
              refine WL.load1 rfl TrydT.ag5 rfl rfl (SlB.rd (H.p 0 rfl) 0 hpos) ?_
              refine WL.pv (PV.conv64 rfl TrydT.in5 TrydT.in3 rfl (by omega) (by omega)) rfl ?_
              refine WL.as rfl rfl ?_
              refine WL.nil ?_
              refine WE.ret ?_
              refine ⟨[_], _, .nil _, ⟨rfl, trivial⟩, ?_⟩
              rw [kindOf_pos hpos, if_pos (by omega)]
              exact ⟨rfl, H.toOut0⟩
            · skip
              try simp only [decide_eq_true_eq, decide_eq_false_iff_not, ne_eq, Decidable.not_not, Bool.not_eq_true', Bool.not_eq_false', Bool.and_eq_true, Bool.or_eq_true, Bool.not_not, Bool.and_eq_false_iff, Bool.or_eq_false_iff, Int.not_lt, Int.not_le] at hc30
              refine WE.skip ?_
              refine WE.exit ?_
              refine WE.seq_reg ?_
              refine WL.as rfl rfl ?_
              refine WL.nil ?_
              refine WE.ret ?_
              refine ⟨[_], _, .nil _, ⟨rfl, trivial⟩, ?_⟩
              rw [kindOf_pos hpos, if_neg (by omega)]
              exact ⟨rfl, H.toOut0⟩
          · skip
            refine WL.known (t := 24) (c := false) rfl hg25 ?_
            try simp only [decide_eq_true_eq, decide_eq_false_iff_not, ne_eq, Decidable.not_not, Bool.not_eq_true', Bool.not_eq_false', Bool.and_eq_true, Bool.or_eq_true, Bool.not_not, Bool.and_eq_false_iff, Bool.or_eq_false_iff, Int.not_lt, Int.not_le] at hg25
            refine WL.off rfl ?_
            refine WL.off rfl ?_
            refine WL.off rfl ?_
            refine WL.off rfl ?_
            refine WL.pv (PV.pick_f rfl rfl rfl) rfl ?_
            refine WL.nil ?_
            refine WE.cond_f rfl ?_
            refine WE.skip ?_
            refine WE.exit ?_
            refine WE.seq_reg ?_
            refine WL.as rfl rfl ?_
            refine WL.nil ?_
            refine WE.ret ?_
            refine ⟨[_], _, .nil _, ⟨rfl, trivial⟩, ?_⟩
            rw [kindOf_pos hpos, if_neg (by omega)]
            exact ⟨rfl, H.toOut0⟩
        · skip
          try simp only [decide_eq_true_eq, decide_eq_false_iff_not, ne_eq, Decidable.not_not, Bool.not_eq_true', Bool.not_eq_false', Bool.and_eq_true, Bool.or_eq_true, Bool.not_not, Bool.and_eq_false_iff, Bool.or_eq_false_iff, Int.not_lt, Int.not_le] at hc16
          refine WE.skip ?_
          refine WE.seq_reg ?_
          refine WL.pv (PV.eql rfl rfl rfl) rfl ?_
          refine WL.as rfl rfl ?_
          refine WL.nil ?_
          refine WE.cond rfl (fun hc18 => ?_) (fun hc18 => ?_)
          · skip
            try simp only [decide_eq_true_eq, decide_eq_false_iff_not, ne_eq, Decidable.not_not, Bool.not_eq_true', Bool.not_eq_false', Bool.and_eq_true, Bool.or_eq_true, Bool.not_not, Bool.and_eq_false_iff, Bool.or_eq_false_iff, Int.not_lt, Int.not_le] at hc18
            refine WE.exit ?_
            refine WE.seq ?_
            refine WE.seq_reg ?_
            refine WL.mv rfl rfl ?_
            refine WL.pv (PV.lenS (H.p 0 rfl) TrydT.sl33 rfl) rfl ?_
            refine WL.mv rfl rfl ?_
            refine WL.pv (PV.geq rfl rfl rfl) rfl ?_
            refine WL.mv rfl rfl ?_
            refine WL.split (t := 25) rfl (fun hg25 => ?_) (fun hg25 => ?_)
            · skip
              refine WL.known (t := 24) (c := true) rfl hg25 ?_
              try simp only [decide_eq_true_eq, decide_eq_false_iff_not, ne_eq, Decidable.not_not, Bool.not_eq_true', Bool.not_eq_false', Bool.and_eq_true, Bool.or_eq_true, Bool.not_not, Bool.and_eq_false_iff, Bool.or_eq_false_iff, Int.not_lt, Int.not_le] at hg25
              refine WL.mv rfl rfl ?_
              refine WL.pv (PV.lenS (H.p 0 rfl) TrydT.sl33 rfl) rfl ?_
              refine WL.mv rfl rfl ?_
              refine WL.pv (PV.leq rfl rfl rfl) rfl ?_
              refine WL.pv (PV.pick_t rfl rfl rfl) rfl ?_
              refine WL.nil ?_
              refine WE.cond rfl (fun hc30 => ?_) (fun hc30 => ?_)
              · skip
                try simp only [decide_eq_true_eq, decide_eq_false_iff_not, ne_eq, Decidable.not_not, Bool.not_eq_true', Bool.not_eq_false', Bool.and_eq_true, Bool.or_eq_true, Bool.not_not, Bool.and_eq_false_iff, Bool.or_eq_false_iff, Int.not_lt, Int.not_le] at hc30
                refine WE.seq_reg ?_
                refine WL.mv rfl rfl ?_
                refine WL.pv (PV.idxS rfl (H.p 0 rfl) TrydT.sl33 TrydT.sz5 rfl rfl (by omega) (by omega)) rfl ?_
                refine WL.load1 rfl TrydT.ag5 rfl rfl (SlB.rd (H.p 0 rfl) 0 hpos) ?_
                refine WL.pv (PV.conv64 rfl TrydT.in5 TrydT.in3 rfl (by omega) (by omega)) rfl ?_
                refine WL.as rfl rfl ?_
                refine WL.nil ?_
                refine WE.ret ?_
                refine ⟨[_], _, .nil _, ⟨rfl, trivial⟩, ?_⟩
                rw [kindOf_pos hpos, if_pos (by omega)]
                exact ⟨rfl, H.toOut0⟩
              · skip
                try simp only [decide_eq_true_eq, decide_eq_false_iff_not, ne_eq, Decidable.not_not, Bool.not_eq_true', Bool.not_eq_false', Bool.and_eq_true, Bool.or_eq_true, Bool.not_not, Bool.and_eq_false_iff, Bool.or_eq_false_iff, Int.not_lt, Int.not_le] at hc30
                refine WE.skip ?_
                refine WE.exit ?_
                refine WE.seq_reg ?_
                refine WL.as rfl rfl ?_
                refine WL.nil ?_
                refine WE.ret ?_
                refine ⟨[_], _, .nil _, ⟨rfl, trivial⟩, ?_⟩
                rw [kindOf_pos hpos, if_neg (by omega)]
                exact ⟨rfl, H.toOut0⟩
            · skip
              refine WL.known (t := 24) (c := false) rfl hg25 ?_
              try simp only [decide_eq_true_eq, decide_eq_false_iff_not, ne_eq, Decidable.not_not, Bool.not_eq_true', Bool.not_eq_false', Bool.and_eq_true, Bool.or_eq_true, Bool.not_not, Bool.and_eq_false_iff, Bool.or_eq_false_iff, Int.not_lt, Int.not_le] at hg25
              refine WL.off rfl ?_
              refine WL.off rfl ?_
              refine WL.off rfl ?_
              refine WL.off rfl ?_
              refine WL.pv (PV.pick_f rfl rfl rfl) rfl ?_
              refine WL.nil ?_
              refine WE.cond_f rfl ?_
              refine WE.skip ?_
              refine WE.exit ?_
              refine WE.seq_reg ?_
              refine WL.as rfl rfl ?_
              refine WL.nil ?_
              refine WE.ret ?_
              refine ⟨[_], _, .nil _, ⟨rfl, trivial⟩, ?_⟩
              rw [kindOf_pos hpos, if_neg (by omega)]
              exact ⟨rfl, H.toOut0⟩
          · skip
            try simp only [decide_eq_true_eq, decide_eq_false_iff_not, ne_eq, Decidable.not_not, Bool.not_eq_true', Bool.not_eq_false', Bool.and_eq_true, Bool.or_eq_true, Bool.not_not, Bool.and_eq_false_iff, Bool.or_eq_false_iff, Int.not_lt, Int.not_le] at hc18
            refine WE.skip ?_
            refine WE.exit ?_
            refine WE.seq_reg ?_
            refine WL.as rfl rfl ?_
            refine WL.nil ?_
            refine WE.ret ?_
            refine ⟨[_], _, .nil _, ⟨rfl, trivial⟩, ?_⟩
            rw [kindOf_pos hpos, if_neg (by omega)]
            exact ⟨rfl, H.toOut0⟩

theorem Grow_c {X : Nat → Prop} {w : World} {n : Nat} (hX : ∀ b, X b → b < w.heap.size) (hn : n ≤ 70368744177664) :
    Ret Tryd.prog 106 [.slice none 0 0, .int .i64 n].toArray w fun v w' => Out Nil w w' ∧ w'.ownsRow w.heap.size 5 1 v 0 [] := by
  refine Ret.of_body (N := 27) Tryd.func106 rfl rfl (by simp) ?_
  have H := St.begin hX
  refine WE.seq_reg ?_
  refine WL.as rfl rfl ?_
  refine WL.nil ?_
  refine WE.seq ?_
  refine WE.seq_reg ?_
  refine WL.mv rfl rfl ?_
  refine WL.pv (PV.lss rfl rfl rfl) rfl ?_
  refine WL.nil ?_
  refine WE.cond_f' rfl (by simp) ?_
  refine WE.skip ?_
  refine WE.seq ?_
  refine WE.seq_reg ?_
  refine WL.mv rfl rfl ?_
  refine WL.mv rfl rfl ?_
  refine WL.pv (PV.capSl TrydT.sl33 rfl) rfl ?_
  refine WL.mv rfl rfl ?_
  refine WL.pv (PV.lenSl TrydT.sl33 rfl) rfl ?_
  refine WL.pv (PV.sub64 rfl rfl rfl (by omega) (by omega)) rfl ?_
  refine WL.pv (PV.sub64 rfl rfl rfl (by omega) (by omega)) rfl ?_
  refine WL.as rfl rfl ?_
  refine WL.nil ?_
  refine WE.seq_reg ?_
  refine WL.mv rfl rfl ?_
  refine WL.pv (PV.gtr rfl rfl rfl) rfl ?_
  refine WL.nil ?_
  refine WE.cond rfl (fun hc16 => ?_) (fun hc16 => ?_)
  · skip
    try simp only [decide_eq_true_eq, decide_eq_false_iff_not, ne_eq, Decidable.not_not, Bool.not_eq_true', Bool.not_eq_false', Bool.and_eq_true, Bool.or_eq_true, Bool.not_not, Bool.and_eq_false_iff, Bool.or_eq_false_iff, Int.not_lt, Int.not_le] at hc16
    have hpos : 0 < n := by omega
    refine WE.reg ?_
    refine WL.mv rfl rfl ?_
    refine WL.mv rfl rfl ?_
    refine WL.pv (PV.capSl TrydT.sl33 rfl) rfl ?_
    refine WL.pv (PV.subH rfl (SlC.nil w 1) TrydT.sl33 TrydT.sz5 rfl rfl (by omega) (by omega)) rfl ?_
    refine WL.mv rfl rfl ?_
    refine WL.appendZeros (n := n) H TrydT.st33 TrydT.in3 (by decide) rfl (by simp [ev]; rfl) hpos (by omega) (by decide) rfl ?_
    intro g cap cs w2 H
    refine WL.mv rfl rfl ?_
    refine WL.pv (PV.lenSl TrydT.sl33 rfl) rfl ?_
    refine WL.own0 H 0 rfl TrydT.sl33 rfl rfl rfl rfl rfl ?_
    intro H
    refine WL.as rfl rfl ?_
    refine WL.nil ?_
    refine WE.seq_reg ?_
    refine WL.mv rfl rfl ?_
    refine WL.as rfl rfl ?_
    refine WL.nil ?_
    refine WE.ret ?_
    refine ⟨[_], _, .nil _, ⟨rfl, trivial⟩, ?_⟩
    exact ⟨H.toOut0, H.l 0 rfl⟩
  · skip
    try simp only [decide_eq_true_eq, decide_eq_false_iff_not, ne_eq, Decidable.not_not, Bool.not_eq_true', Bool.not_eq_false', Bool.and_eq_true, Bool.or_eq_true, Bool.not_not, Bool.and_eq_false_iff, Bool.or_eq_false_iff, Int.not_lt, Int.not_le] at hc16
    have hz : n = 0 := by omega
    refine WE.skip ?_
    refine WE.seq_reg ?_
    refine WL.mv rfl rfl ?_
    refine WL.as rfl rfl ?_
    refine WL.nil ?_
    refine WE.ret ?_
    refine ⟨[_], _, .nil _, ⟨rfl, trivial⟩, ?_⟩
    exact ⟨H.toOut0, World.ownsRow_nil _ _ _ _⟩


theorem flatten_take_succ (ls : List (List UInt8)) (k : Nat) (h : k < ls.length) : (ls.take (k + 1)).flatten = (ls.take k).flatten ++ ls[k] := by
  rw [List.take_succ_eq_append_getElem h, List.flatten_append]; simp
theorem flatten_take_le (ls : List (List UInt8)) (k : Nat) : (ls.take k).flatten.length ≤ ls.flatten.length := by
  have h : ls.flatten = (ls.take k).flatten ++ (ls.drop k).flatten := by rw [← List.flatten_append, List.take_append_drop]
  rw [h, List.length_append]; omega

theorem Concat_c {X : Nat → Prop} {w : World} {s : Value} {vs : List Value} {ls : List (List UInt8)} (hX : ∀ b, X b → b < w.heap.size) (hf0 : Rob X (SlV s vs) w) (hf1 : Rob X (SlL vs ls) w) (hvs : vs.length ≤ 1000000) (htot : ls.flatten.length ≤ 70368744177664) :
    Ret Tryd.prog 98 [s].toArray w fun v w' => Out Nil w w' ∧ Rob X (SlB v ls.flatten) w' := by
  refine Ret.of_body (N := 36) Tryd.func98 rfl rfl (by simp) ?_
  have H := St.begin hX
  replace H := H.add (rob0 hf1)
  replace H := H.add (rob0 hf0)
  have hlen : vs.length = ls.length := (H.p 1 rfl : SlL vs ls w).1
  refine WE.seq_reg ?_
  refine WL.as rfl rfl ?_
  refine WL.nil ?_
  refine WE.seq_reg ?_
  refine WL.as rfl rfl ?_
  refine WL.nil ?_
  refine WE.seq ?_
  refine WE.seq_reg ?_
  refine WL.mv rfl rfl ?_
  refine WL.pv (PV.lenS (H.p 0 rfl) TrydT.sl140 rfl) rfl ?_
  refine WL.mv rfl rfl ?_
  refine WL.nil ?_
  refine WE.block ?_
  refine WE.loop (α := Nat) [3, 5, 11, 12, 13, 14, 15, 16, 17, 18, 19, 20, 21, 22] (fun k => [(11, .int .i64 k), (3, .int .i64 ((ls.take k).flatten.length : Int))]) (fun k wl => k ≤ vs.length ∧ St X w wl [] [] [SlV s vs, SlL vs ls]) (fun k => vs.length - k) 0 ⟨rfl, rfl, trivial⟩ ⟨Nat.zero_le _, H⟩ ?_
  intro k γ0 w1 hI
  try dsimp only at hI
  obtain ⟨hk, H⟩ := hI
  refine WE.seq_reg ?_
  refine WL.pv (PV.lss rfl rfl rfl) rfl ?_
  refine WL.nil ?_
  refine WE.seq ?_
  refine WE.cond rfl (fun hc12 => ?_) (fun hc12 => ?_)
  · skip
    try simp only [decide_eq_true_eq, decide_eq_false_iff_not, ne_eq, Decidable.not_not, Bool.not_eq_true', Bool.not_eq_false', Bool.and_eq_true, Bool.or_eq_true, Bool.not_not, Bool.and_eq_false_iff, Bool.or_eq_false_iff, Int.not_lt, Int.not_le] at hc12
    have hlt : k < vs.length := by omega
    have hF := flatten_take_succ ls k (by omega)
    have hG := flatten_take_le ls (k + 1)
    rw [hF, List.length_append] at hG
    refine WE.skip ?_
    refine WE.seq ?_
    refine WE.block ?_
    refine WE.seq_reg ?_
    refine WL.pv (PV.idxS rfl (H.p 0 rfl) TrydT.sl140 TrydT.sz33 rfl rfl (by omega) (by omega)) rfl ?_
    refine WL.load1 rfl TrydT.ag33 rfl rfl (SlV.rd (H.p 0 rfl) k hlt) ?_
    refine WL.as rfl rfl ?_
    refine WL.nil ?_
    refine WE.seq_reg ?_
    refine WL.mv rfl rfl ?_
    refine WL.mv rfl rfl ?_
    refine WL.pv (PV.lenS ((H.p 1 rfl : SlL vs ls _).2 k hlt (by omega)) TrydT.sl33 rfl) rfl ?_
    refine WL.pv (PV.add64 rfl rfl rfl (by omega) (by omega)) rfl ?_
    refine WL.as rfl rfl ?_
    refine WL.nil ?_
    refine WE.seq_reg ?_
    refine WL.mv rfl rfl ?_
    refine WL.pv (PV.lss rfl rfl rfl) rfl ?_
    refine WL.nil ?_
    refine WE.cond_f' rfl (by simp; omega) ?_
    refine WE.skip ?_
    refine WE.reg ?_
    refine WL.pv (PV.add64 rfl rfl rfl (by omega) (by omega)) rfl ?_
    refine WL.mv rfl rfl ?_
    refine WL.nil ?_
    exact ⟨k + 1, (by repeat (first | with_reducible exact Off.refl _ _ | refine Off.upd rfl ?_ | refine Off.setAll rfl ?_ | refine Off.forget' rfl ?_)), ⟨rfl, by rw [hF, List.length_append]; rfl, trivial⟩, rfl, ⟨by omega, H⟩, (by omega)⟩
  · skip
    try simp only [decide_eq_true_eq, decide_eq_false_iff_not, ne_eq, Decidable.not_not, Bool.not_eq_true', Bool.not_eq_false', Bool.and_eq_true, Bool.or_eq_true, Bool.not_not, Bool.and_eq_false_iff, Bool.or_eq_false_iff, Int.not_lt, Int.not_le] at hc12
    have hge : k = vs.length := by omega
    refine WE.exit ?_
    refine WE.seq_reg ?_
    refine WL.mv rfl rfl ?_
    refine WL.call TrydT.fb106 rfl (Grow_c (n := (ls.take k).flatten.length) H.yylt (by have := flatten_take_le ls k; omega)) ?_
    rintro v24 w2 ⟨hO, hOwn⟩
    replace H := H.push hO (Ent.osl w.heap.size v24 5 1 0 []) (ownsRow_base hOwn H.size) (fun b hb => (hOwn.lt b hb).1)
    refine WL.as rfl rfl ?_
    refine WL.nil ?_
    refine WE.seq ?_
    refine WE.seq_reg ?_
    refine WL.mv rfl rfl ?_
    refine WL.pv (PV.lenS (H.p 0 rfl) TrydT.sl140 rfl) rfl ?_
    refine WL.mv rfl rfl ?_
    refine WL.nil ?_
    refine WE.block ?_
    refine WE.loop (α := Nat × Value) [6, 8, 27, 28, 29, 30, 31, 32, 33, 34] (fun p => [(27, .int .i64 p.1), (6, p.2)]) (fun p wl => p.1 ≤ vs.length ∧ St X w wl [] [Ent.osl w.heap.size p.2 5 1 (ls.take p.1).flatten.length (kc (ls.take p.1).flatten)] [SlV s vs, SlL vs ls]) (fun p => vs.length - p.1) (0, v24) ⟨rfl, rfl, trivial⟩ ⟨Nat.zero_le _, H⟩ ?_
    intro ⟨k, v⟩ γ1 w3 hI
    try dsimp only at hI
    obtain ⟨hk, H⟩ := hI
    refine WE.seq_reg ?_
    refine WL.pv (PV.lss rfl rfl rfl) rfl ?_
    refine WL.nil ?_
    refine WE.seq ?_
    refine WE.cond rfl (fun hc28 => ?_) (fun hc28 => ?_)
    · skip
      try simp only [decide_eq_true_eq, decide_eq_false_iff_not, ne_eq, Decidable.not_not, Bool.not_eq_true', Bool.not_eq_false', Bool.and_eq_true, Bool.or_eq_true, Bool.not_not, Bool.and_eq_false_iff, Bool.or_eq_false_iff, Int.not_lt, Int.not_le] at hc28
      have hlt : k < vs.length := by omega
      have hF := flatten_take_succ ls k (by omega)
      have hG := flatten_take_le ls (k + 1)
      rw [hF, List.length_append] at hG
      refine WE.skip ?_
      refine WE.seq ?_
      refine WE.block ?_
      refine WE.seq_reg ?_
      refine WL.pv (PV.idxS rfl (H.p 0 rfl) TrydT.sl140 TrydT.sz33 rfl rfl (by omega) (by omega)) rfl ?_
      refine WL.load1 rfl TrydT.ag33 rfl rfl (SlV.rd (H.p 0 rfl) k hlt) ?_
      refine WL.as rfl rfl ?_
      refine WL.nil ?_
      refine WE.reg ?_
      refine WL.mv rfl rfl ?_
      refine WL.mv rfl rfl ?_
      refine WL.append (m := (ls[k]'(by omega)).length) H 0 TrydT.st33 (by decide) rfl rfl rfl ((H.p 1 rfl : SlL vs ls _).2 k hlt (by omega)) (by exact kc_one _) (by omega) (by decide) rfl ?_
      intro v33 w4 H
      refine WL.as rfl rfl ?_
      refine WL.nil ?_
      refine WE.reg ?_
      refine WL.pv (PV.add64 rfl rfl rfl (by omega) (by omega)) rfl ?_
      refine WL.mv rfl rfl ?_
      refine WL.nil ?_
      replace H : St X w w4 [] [Ent.osl w.heap.size v33 5 1 (ls.take (k+1)).flatten.length (kc (ls.take (k+1)).flatten)] [SlV s vs, SlL vs ls] := by rw [hF, List.length_append, kc_append]; exact H
      exact ⟨(k + 1, v33), (by repeat (first | with_reducible exact Off.refl _ _ | refine Off.upd rfl ?_ | refine Off.setAll rfl ?_ | refine Off.forget' rfl ?_)), ⟨rfl, rfl, trivial⟩, rfl, ⟨by dsimp only; omega, H⟩, (by dsimp only; omega)⟩
    · skip
      try simp only [decide_eq_true_eq, decide_eq_false_iff_not, ne_eq, Decidable.not_not, Bool.not_eq_true', Bool.not_eq_false', Bool.and_eq_true, Bool.or_eq_true, Bool.not_not, Bool.and_eq_false_iff, Bool.or_eq_false_iff, Int.not_lt, Int.not_le] at hc28
      have hge : k = vs.length := by omega
      refine WE.exit ?_
      refine WE.seq_reg ?_
      refine WL.mv rfl rfl ?_
      refine WL.as rfl rfl ?_
      refine WL.nil ?_
      refine WE.ret ?_
      refine ⟨[_], _, .nil _, ⟨rfl, trivial⟩, ?_⟩
      replace H := H.freeze (i := 0) rfl
      have hall : ls.take k = ls := List.take_of_length_le (by omega)
      exact ⟨H.toOut0, H.give ((H.rob 0 rfl).imp fun _ h => by have := SlB.of_own h; rwa [hall] at this)⟩

end Go.Sp.Tryd
