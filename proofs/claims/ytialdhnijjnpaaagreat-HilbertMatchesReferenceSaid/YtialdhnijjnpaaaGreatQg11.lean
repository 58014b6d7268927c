/- Part 11 of the proof of hilbertMatchesReference_holds. No condition. -/
import Derived.Maps.OwnOps
import Derived.Test.YtialdhnijjnpaaaGreatQg10
set_option linter.unusedSimpArgs false
set_option linter.unusedVariables false
set_option maxRecDepth 100000
namespace Go.Proofs.YtialdhnijjnpaaaGreat
open Go.RowKit
theorem MapAt.set{w:World}{B:Nat}{E:List Tm}(h:MapAt w B E){p:Addr}{t:TypeId}(ht:Ty w p.block t)(hne:t≠136)(u:Value):MapAt (w.setCell p u) B E:=by
 have hB:B≠p.block:=λe=>h.notU t (by rw [e];exact ht)
 obtain ⟨es,clock,h1,h2,h3,h4⟩:=h
 refine ⟨es,clock,(Below.heap_setCell w p u B hB).trans h1,h2,λi e hi=>?_,h4⟩
 obtain ⟨b,b',A,A',m,c,m',c',h5,h6⟩:=h3 i e hi
 exact ⟨b,b',A,A',m,c,m',c',h5,h6.set ht hne u⟩
def Coll(E:List Tm)(q:Rat)(a:Nat->Int)(E':List Tm):Prop:=((∀t∈E,¬Eqv a t.m)/\E'=E++[⟨q,a⟩])\/∃i,i<E.length/\Eqv a (tAt E i).m/\E'=E.set i ⟨(tAt E i).c+q,a⟩
theorem Coll.length{E E':List Tm}{q:Rat}{a:Nat->Int}(h:Coll E q a E'):E'.length<=E.length+1:=by
 rcases h with ⟨_,rfl⟩ | ⟨i,_,_,rfl⟩<;>simp
theorem Coll.sz{E E':List Tm}{q:Rat}{a:Nat->Int}(h:Coll E q a E'){N M:Nat}(hE:PSz E N)(hq:RSz q M):PSz E' (N+M+1):=by
 rcases h with ⟨_,rfl⟩ | ⟨i,hi,he,rfl⟩
 .intro t ht
  rcases List.mem_append.1 ht with ht | ht
  .exact (hE t ht).mono (by omega)
  .have:t=⟨q, a⟩:=by simpa using ht
   rw [this];exact hq.mono (by omega)
 .intro t ht
  rcases List.mem_or_eq_of_mem_set ht with ht | rfl
  .exact (hE t ht).mono (by omega)
  .exact (hE _ (A14 hi)).add hq
end Go.Proofs.YtialdhnijjnpaaaGreat
