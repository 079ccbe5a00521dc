/- Two classes of worlds for a region that draws its order: 'w with blocks and draws' (Lay) and 'w with blocks' (Gr), as terms that the walk sees through. -/
import Derived.Test.YtcdcmohccbhchaaGreatDoorTail
import Derived.Test.YtcdcmohccbhchaaGreatDoorCmp
namespace Go.Proofs.YtcdcmohccbhchaaGreatDoor
open Go.RowKit

structure LD where
  n : Nat
  os : Array Obj
  deriving Inhabited
/-- w with draws and blocks. -/
def lw (w : World) (p : LD) : World := Sort.grow (w.drewN p.n) p.os
structure GD where
  d : Nat
  os : Array Obj
  deriving Inhabited
/-- w with blocks, at some count of draws. -/
def gw (w : World) (p : GD) : World := { w with heap := w.heap ++ p.os, drawn := p.d }

theorem heap_gw (w : World) (p : GD) {k : Nat} (h : k < w.heap.size) : (gw w p).heap[k]? = w.heap[k]? := by simp [gw, Array.getElem?_append, h]
theorem gr_gw (w : World) (p : GD) : Gr w (gw w p) := ⟨rfl, rfl, rfl, by simp [gw], fun _ hk => heap_gw w p hk⟩
theorem lay_lw (w : World) (p : LD) : Lay w (lw w p) := Lay.of_grow w p.n p.os
theorem Lay.lw {w w' : World} (h : Lay w w') : ∃ p : LD, w' = lw w p := by obtain ⟨q, os, hq⟩ := h.grow; exact ⟨⟨q, os⟩, hq⟩
theorem Gr.gw {w w' : World} (h : Gr w w') : ∃ p : GD, w' = gw w p := by
  have g1 : w'.os = w.os := Below.os h
  have g2 : w'.tape = w.tape := Below.tape h
  have g3 : w'.output = w.output := Below.output h
  refine ⟨⟨w'.drawn, w'.heap.extract w.heap.size w'.heap.size⟩, ?_⟩
  have hh : w'.heap = w.heap ++ w'.heap.extract w.heap.size w'.heap.size := by
    apply Array.ext_getElem?
    intro i
    have hs := h.size
    by_cases hi : i < w.heap.size
    · rw [h.block hi, Array.getElem?_append, if_pos hi]
    · rw [Array.getElem?_append, if_neg hi, Array.getElem?_extract]
      by_cases h2 : i < w'.heap.size
      · rw [if_pos (by omega), show w.heap.size + (i - w.heap.size) = i by omega]
      · rw [if_neg (by omega), Array.getElem?_eq_none (by omega)]
  cases w'; cases w
  simp only [Go.Proofs.YtcdcmohccbhchaaGreatDoor.gw, World.mk.injEq]
  simp only at hh g1 g2 g3
  exact ⟨hh, g2, trivial, g1, g3⟩

@[go_sem] theorem cell_gw (w : World) (p : GD) (b k : Nat) (h : b < w.heap.size) : (gw w p).cell? ⟨b, k, none⟩ = w.cell? ⟨b, k, none⟩ := (gr_gw w p).cell h
@[go_sem] theorem frozen_gw (w : World) (p : GD) (b k : Nat) (h : b < w.heap.size) : (gw w p).frozen? ⟨b, k, none⟩ = w.frozen? ⟨b, k, none⟩ := (gr_gw w p).frozen h
@[go_sem] theorem rowAt_gw (w : World) (p : GD) (b k n : Nat) (h : b < w.heap.size) : rowAt (gw w p) ⟨b, k, none⟩ n = rowAt w ⟨b, k, none⟩ n := (gr_gw w p).rowAt h
@[go_sem] theorem hasRow_gw (w : World) (p : GD) (b k n : Nat) (h : b < w.heap.size) : hasRow (gw w p) ⟨b, k, none⟩ n = hasRow w ⟨b, k, none⟩ n := (gr_gw w p).hasRow h
@[go_sem] theorem cell_lw (w : World) (p : LD) (b k : Nat) (h : b < w.heap.size) : (lw w p).cell? ⟨b, k, none⟩ = w.cell? ⟨b, k, none⟩ := (lay_lw w p).1.cell h
@[go_sem] theorem frozen_lw (w : World) (p : LD) (b k : Nat) (h : b < w.heap.size) : (lw w p).frozen? ⟨b, k, none⟩ = w.frozen? ⟨b, k, none⟩ := (lay_lw w p).1.frozen h
@[go_sem] theorem rowAt_lw (w : World) (p : LD) (b k n : Nat) (h : b < w.heap.size) : rowAt (lw w p) ⟨b, k, none⟩ n = rowAt w ⟨b, k, none⟩ n := (lay_lw w p).1.rowAt h
@[go_sem] theorem hasRow_lw (w : World) (p : LD) (b k n : Nat) (h : b < w.heap.size) : hasRow (lw w p) ⟨b, k, none⟩ n = hasRow w ⟨b, k, none⟩ n := (lay_lw w p).1.hasRow h

/-- The classes. -/
def CL (w u : World) : Prop := ∃ p : LD, u = lw w p
theorem cl_drew (w : World) : ∃ p : LD, w.drew = lw w p := ⟨⟨1, #[]⟩, by simp [lw]; rfl⟩
theorem cg_drew (w : World) : ∃ p : GD, w.drew = gw w p := ⟨⟨w.drawn + 1, #[]⟩, by cases w; simp only [gw, Array.append_empty]; rfl⟩

section
variable {P : Program} {f : FuncId} {args : Array Value} {W : World} {v : Value}
theorem lay_call {p : LD} (h : Calls P f args (lw W p) fun e w' => e = .returned v ∧ Lay (lw W p) w') : Calls P f args (lw W p) fun e w'' => e = .returned v ∧ ∃ q : LD, w'' = lw W q :=
  h.mono fun _ _ ⟨he, hl⟩ => ⟨he, ((lay_lw W p).trans hl).lw⟩
theorem lay_same {p : LD} (h : Calls P f args (lw W p) fun e w' => e = .returned v ∧ lw W p = w') : Calls P f args (lw W p) fun e w'' => e = .returned v ∧ ∃ q : LD, w'' = lw W q :=
  h.mono fun _ _ ⟨he, hl⟩ => ⟨he, p, hl.symm⟩
theorem gr_call {p : GD} (h : Calls P f args (gw W p) fun e w' => e = .returned v ∧ Gr (gw W p) w') : Calls P f args (gw W p) fun e w'' => e = .returned v ∧ ∃ q : GD, w'' = gw W q :=
  h.mono fun _ _ ⟨he, hl⟩ => ⟨he, ((gr_gw W p).trans hl).gw⟩
theorem gr_same {p : GD} (h : Calls P f args (gw W p) fun e w' => e = .returned v ∧ gw W p = w') : Calls P f args (gw W p) fun e w'' => e = .returned v ∧ ∃ q : GD, w'' = gw W q :=
  h.mono fun _ _ ⟨he, hl⟩ => ⟨he, p, hl.symm⟩
end
end Go.Proofs.YtcdcmohccbhchaaGreatDoor
