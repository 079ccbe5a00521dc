/- A control command as a row of cells, and its parts. -/
import Derived.Test.YtcdcmohccbhchaaGreatDoorData
import Derived.Test.YtcdcmohccbhchaaGreatDoorKPl
namespace Go.Proofs.YtcdcmohccbhchaaGreatDoor
open Go.RowKit

/-- A command; its moderators as a list. -/
structure Cm where
  kind : Int
  target : Id
  group : ByteArray
  version : Int
  moderated : Bool
  mods : List Aut
  text : ByteArray
  number : Int
  height : Int
  root : Aut
  deriving DecidableEq
/-- The public key's cells. -/
def pubC (h : Int) (r : Aut) : List Value := .int .i64 h :: bC r
/-- The command's cells; v: the slice of its moderators. -/
def cmC (c : Cm) (v : Value) : List Value := [.int .i64 c.kind] ++ (bC c.target ++ ([.string c.group, .int .i64 c.version, .bool c.moderated, v, .string c.text, .int .i64 c.number] ++ pubC c.height c.root))
theorem pubC_length (h : Int) (r : Aut) : (pubC h r).length = 17 := by simp [pubC, bC_length]
theorem cmC_length (c : Cm) (v : Value) : (cmC c v).length = 56 := by simp [cmC, bC_length, pubC_length]
theorem oneB_pub (h : Int) (r : Aut) : oneB (pubC h r) = true := by rw [pubC, oneB_cons, oneB_bC]; rfl
section
variable (c : Cm) (v : Value)
theorem cm_kind : (cmC c v)[0]? = some (.int .i64 c.kind) := rfl
theorem cm_target : rowOf (cmC c v) 1 32 = bC c.target := by
  unfold cmC; rw [rowOf_app_r _ _ _ _ 1 rfl (by decide)]; exact rowOf_app_l _ _ _ (bC_length _)
theorem cm_at (k : Nat) (h : 33 ≤ k) : (cmC c v)[k]? = ([Value.string c.group, .int .i64 c.version, .bool c.moderated, v, .string c.text, .int .i64 c.number] ++ pubC c.height c.root)[k - 33]? := by
  unfold cmC; rw [get_app_r _ _ _ 1 rfl (by omega), get_app_r _ _ _ 32 (bC_length _) (by omega), Nat.sub_sub]
theorem cm_group : (cmC c v)[33]? = some (.string c.group) := cm_at c v 33 (by decide)
theorem cm_version : (cmC c v)[34]? = some (.int .i64 c.version) := cm_at c v 34 (by decide)
theorem cm_moderated : (cmC c v)[35]? = some (.bool c.moderated) := cm_at c v 35 (by decide)
theorem cm_mods : (cmC c v)[36]? = some v := cm_at c v 36 (by decide)
theorem cm_text : (cmC c v)[37]? = some (.string c.text) := cm_at c v 37 (by decide)
theorem cm_number : (cmC c v)[38]? = some (.int .i64 c.number) := cm_at c v 38 (by decide)
theorem cm_height : (cmC c v)[39]? = some (.int .i64 c.height) := cm_at c v 39 (by decide)
theorem cm_pub : rowOf (cmC c v) 39 17 = pubC c.height c.root := by
  unfold cmC; rw [rowOf_app_r _ _ _ _ 1 rfl (by decide), rowOf_app_r _ _ _ _ 32 (bC_length _) (by decide), rowOf_app_r _ _ _ _ 6 rfl (by decide)]; exact rowOf_all _ _ (pubC_length _ _)
theorem pub_root (h : Int) (r : Aut) : rowOf (pubC h r) 1 16 = bC r := by
  unfold pubC; rw [rowOf_cons _ _ _ _ (by decide)]; exact rowOf_all _ _ (bC_length _)
theorem cm_root : rowOf (cmC c v) 40 16 = bC c.root := by
  unfold cmC; rw [rowOf_app_r _ _ _ _ 1 rfl (by decide), rowOf_app_r _ _ _ _ 32 (bC_length _) (by decide), rowOf_app_r _ _ _ _ 6 rfl (by decide)]; exact pub_root _ _
theorem cm_whole : rowOf (cmC c v) 0 56 = cmC c v := rowOf_all _ _ (cmC_length c v)
theorem cm_kind' (h : 0 < (cmC c v).length) : (cmC c v)[0] = .int .i64 c.kind := get_of (cm_kind c v) h
theorem cm_group' (h : 33 < (cmC c v).length) : (cmC c v)[33] = .string c.group := get_of (cm_group c v) h
theorem cm_version' (h : 34 < (cmC c v).length) : (cmC c v)[34] = .int .i64 c.version := get_of (cm_version c v) h
theorem cm_moderated' (h : 35 < (cmC c v).length) : (cmC c v)[35] = .bool c.moderated := get_of (cm_moderated c v) h
theorem cm_mods' (h : 36 < (cmC c v).length) : (cmC c v)[36] = v := get_of (cm_mods c v) h
theorem cm_text' (h : 37 < (cmC c v).length) : (cmC c v)[37] = .string c.text := get_of (cm_text c v) h
theorem cm_number' (h : 38 < (cmC c v).length) : (cmC c v)[38] = .int .i64 c.number := get_of (cm_number c v) h
theorem cm_height' (h : 39 < (cmC c v).length) : (cmC c v)[39] = .int .i64 c.height := get_of (cm_height c v) h
theorem cm_one (hv : v.oneCell' = true) : oneB (cmC c v) = true := by
  rw [cmC, oneB_append, oneB_append, oneB_append, oneB_bC, oneB_pub]; simp only [oneB, List.all_cons, List.all_nil, hv, Bool.and_true]; rfl
end
/-- The zero command of a kind. -/
def zAut : Aut := Vector.replicate 16 0
def zId : Id := Vector.replicate 32 0
def cm0 (k : Int) : Cm := ⟨k, zId, ⟨#[]⟩, 0, false, [], ⟨#[]⟩, 0, 0, zAut⟩
def bs (l : Str) : ByteArray := ⟨l.toArray⟩
theorem bl_bs (l : Str) : bl (bs l) = l := rfl
theorem bs_bl (s : ByteArray) : bs (bl s) = s := rfl
end Go.Proofs.YtcdcmohccbhchaaGreatDoor
