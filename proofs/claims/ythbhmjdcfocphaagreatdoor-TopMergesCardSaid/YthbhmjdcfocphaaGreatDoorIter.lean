/- A part of this proof. -/
import Derived.Shelf.SlIter.Nil
import Derived.Shelf.SortM.Plain
import Derived.Shelf.SortM.SortNone
import Derived.Test.YthbhmjdcfocphaaGreatDoorShelf
namespace Go.Proofs
open Go.Fence renaming wide→η
open _root_.Go.Proofs.Tryz renaming prog→θ, sort215→κ, keys138→ν
open Go.RowKit Go.Maps Go.Sort Go.Shelf
theorem Tryz.sorts137(g:Nat):AnyZ.SortsIn θ Tryz.sorted137_ren η g:=
 ⟨λi j b e a d f h=>callsIn_wide.2 (AnyM.slices_Sort_string κ i j b e a d f h),
  λc b a=>callsIn_wide.2 (AnyM.slices_Sort_string_none κ c b a)⟩
theorem Tryz.maps_Keys_138(b:Option Nat)(a:World):CallsIn η 5 θ 138 #[.map b] a λc d=>c= .returned (.func (.func 216) #[] #[.pointer (some ⟨a.heap.size,0,none⟩)])/\d=a.alloc (.cells #[.map b] 72):=
 AnyZ.keys_in ν η 5 trivial rfl b a
set_option maxHeartbeats 1000000 in
theorem Tryz.slices_Sorted_keys_137_138{i:Type}(b h:Nat)(c:DataW i)(q:Value->Option (DataW i×List MemPlace))(a:World)(g:a.ownsMap θ 9 q b h c)(u:Maps.size c<=maxLen)(v:Maps.size c*16<=140737488355328):
 CallsIn η 5 θ 137 #[.func (.func 216) #[] #[.pointer (some ⟨a.heap.size,0,none⟩)]] (a.alloc (.cells #[.map (some b)] 72)) λo f=>∃(e:Value)(d:List (List UInt8)),o= .returned e/\d.Perm (strKeys c)/\
  f.ownsRow (a.alloc (.cells #[.map (some b)] 72)).heap.size 9 1 e d.length ((d.mergeSort (λw p=>decide (w<=p))).map encStr)/\(e= .slice none 0 0↔d=[])/\Below (a.alloc (.cells #[.map (some b)] 72)).heap.size (a.alloc (.cells #[.map (some b)] 72)) f:=by
 have r:=g.lt
 have n:SeqGives η 2 θ 216 #[.pointer (some ⟨a.heap.size,0,none⟩)] encStr (λd=>d.Perm (strKeys c)) (Maps.size c) (a.alloc (.cells #[.map (some b)] 72)):=
  AnyZ.keys_gives (ρ:=Tryz.keys138_ren) {ν with} η _ trivial rfl (by omega) a.heap.size b h c _ (by simp) (by simp) (by obtain⟨l,t,j,s,k,m⟩:=g;exact⟨l,t,(Below.heap_alloc _ _ b r).trans j,s,k,m⟩)
 exact AnyZ.sorted_in Tryz.sorted137 η 5 trivial trivial trivial trivial rfl (by omega) (Tryz.sorts137 _) (enters_of Tryz.func215 (by kernel_rfl) rfl) 216 #[.pointer (some ⟨a.heap.size,0,none⟩)] trivial (enters_of Tryz.func216 (by kernel_rfl) rfl) _ _ u v _ n
end Go.Proofs
