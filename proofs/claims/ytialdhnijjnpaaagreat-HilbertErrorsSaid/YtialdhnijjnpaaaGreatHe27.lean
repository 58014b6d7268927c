/- Part 27 of the proof of hilbertErrors_holds. No condition. -/
import Derived.Deep.Slices
import Derived.OpenShut
import Derived.Test.YtialdhnijjnpaaaGreatHe17
set_option linter.unusedSimpArgs false
set_option linter.unusedVariables false
set_option maxRecDepth 100000
namespace Go.Proofs.YtialdhnijjnpaaaGreat
open Go.RowKit Go.Deep Go.ChangeShapes Go.WideShapes
def Good (w : World) (cs:List Value) (ds:List D):Prop :=
 cs.length = ds.length∧∀ s:GS,s.w = w→(∀ b k,b<w.heap.size→s.S b k)→∀ k,k<ds.length→∃ u,cs[k]? = some u∧u.oneCell' = true∧(By ds k).rel s u
theorem Good.nil (w : World):Good w [] []:=⟨rfl,fun _ _ _ k hk=>absurd hk (Nat.not_lt_zero k)⟩
theorem Good.one {w : World} {v:Value} {d:D} (h1:v.oneCell' = true) (h:∀ s:GS,s.w = w→(∀ b k,b<w.heap.size→s.S b k)→d.rel s v):Good w [v] [d] :=
 ⟨rfl,fun s hw hS k hk=>by
  obtain rfl:k = 0:=by simpa using hk
  exact ⟨v,rfl,h1,h s hw hS⟩⟩
def Opens (P : Program) (t:TypeId) (R:List D→Prop):Prop :=
 ∀ (H:Type) (enc:TypeId × Value→H) (w:World) (base:Nat) (spare:Nat→Bool) (held:Bool) (fuel:Nat) (cs:List Value) (x:DataW H × List MemPlace),
  DataW.trod enc P w base spare held fuel t cs = some x→∃ ds,R ds∧Good w cs ds
theorem Opens.mono {P : Program} {t:TypeId} {R R':List D→Prop} (h:Opens P t R) (hr:∀ ds,R ds→R' ds):Opens P t R':=fun H enc w base spare held fuel cs x hx =>
 let ⟨ds,h1,h2⟩:=h H enc w base spare held fuel cs x hx
 ⟨ds,hr ds h1,h2⟩
theorem Opens.bool {P : Program} {t:TypeId} (ht:P.underlying t = some .bool):Opens P t fun ds=>∃ b,ds = [ex (.bool b)]:=fun H enc w base spare held fuel cs x hx=>by
 obtain ⟨b,rfl,_⟩:=DataW.trod_bool ht hx
 exact ⟨_,⟨b,rfl⟩,Good.one rfl fun _ _ _=>rfl⟩
theorem Opens.int {P : Program} {t:TypeId} {κ:IntKind} (ht:P.underlying t = some (.int κ)):Opens P t fun ds=>∃ z,(Lit.int κ z).wf = true∧ds = [ex (.int κ z)]:=fun H enc w base spare held fuel cs x hx=>by
 obtain ⟨z,rfl,_,hw⟩:=DataW.trod_int ht hx
 exact ⟨_,⟨z,hw,rfl⟩,Good.one rfl fun _ _ _=>rfl⟩
def FieldsO (P : Program):Nat→List Field→List (List D→Prop)→Nat→Prop
 | off,[],[],n=>off = n
 | off,f :: fs,R :: Rs,n=>f.offset = off∧Opens P f.type R∧FieldsO P (off+P.cellsOf f.type) fs Rs n
 | _,_,_,_=>False
theorem FieldsO.nil {P : Program} {off n:Nat} (h:off = n):FieldsO P off [] [] n:=h
theorem FieldsO.cons {P : Program} {off n:Nat} {f:Field} {fs:List Field} {R:List D→Prop} {Rs:List (List D→Prop)} (h:f.offset = off) (hR:Opens P f.type R) (hs:FieldsO P (off+P.cellsOf f.type) fs Rs n):FieldsO P off (f :: fs) (R :: Rs) n:=⟨h,hR,hs⟩
theorem Opens.slice {P : Program} {t e:TypeId} {c:Nat} {R:List D→Prop} (ht:P.underlying t = some (.slice e)) (hc:P.cellsOf e = c) (hc0:0<c) (he:Opens P e R) (hR:∀ ds,R ds→ds.length = c):Opens P t fun ds=>∃ T rows,(∀ r∈rows,R r)∧ds = [slD T c rows]:=fun H enc w base spare held fuel cs x hx=>by
 rcases open_slice ht hx with ⟨rfl,_⟩ | ⟨a,len,cap,m,n,Dx,Pl,rfl,hb,hlc,hcap,hm,_,hel⟩
 ·exact ⟨_,⟨0,[],fun r hr=>(by cases hr),rfl⟩,Good.one rfl fun s _ _=>slD.nil _ _ s⟩
 ·have hlm : len ≤ m := by rw [hm]; split <;> omega
  have hcap':cap≤9223372036854775807:=by simpa [maxLen] using hcap
  obtain ⟨b,off,spot⟩:=a
  have hex:∀ i,i<len→∃ ds cs',R ds∧w.cells? base ((⟨b,off,spot⟩:Addr).add (i*c)) c = some cs'∧Good w cs' ds:=fun i hi=>by
   obtain ⟨cs',h1,h2⟩:=hel i (by omega)
   rw [hc] at h1
   obtain ⟨ds,h3,h4⟩:=he H enc w base spare held n cs' _ h2
   exact ⟨ds,cs',h3,h1,h4⟩
  obtain ⟨f,hf⟩:=choose_lt hex
  obtain ⟨g,hg⟩:=choose_lt (p:=fun i cs'=>R (f i)∧w.cells? base ((⟨b,off,spot⟩:Addr).add (i*c)) c = some cs'∧Good w cs' (f i)) hf
  by_cases h0:len = 0
  ·subst h0
   exact ⟨_,⟨0,[],fun r hr=>(by cases hr),rfl⟩,Good.one rfl fun s _ _=>⟨_,cap,rfl,by simp,hcap',fun h=>absurd h (by simp)⟩⟩
  ·have hspot:spot = none:=by
    obtain ⟨h1,h2,h3⟩:=hg 0 (by omega)
    obtain ⟨_,hl,h4⟩:=World.cells?_some h2
    have h5:=h4 0 hc0
    rw [List.getElem?_eq_getElem (by omega),Deep.add_add,Nat.zero_mul,Nat.add_zero] at h5
    have h6:w.cell? ⟨b,off,spot⟩ = _:=h5
    simpa using World.cell?_spot h6
   subst hspot
   have hcell:∀ i,i<len→∀ j,j<c→∃ u,(g i)[j]? = some u∧w.cell? ⟨b,off+i*c+j,none⟩ = some u:=fun i hi j hj=>by
    obtain ⟨h1,h2,h3⟩:=hg i hi
    obtain ⟨_,hl,h4⟩:=World.cells?_some h2
    have h5:=h4 j (by omega)
    have hlt:j<(g i).length:=by omega
    refine ⟨(g i)[j],List.getElem?_eq_getElem hlt,?_⟩
    rw [List.getElem?_eq_getElem hlt,Deep.add_add] at h5
    rw [← h5]
    congr 1
    unfold Addr.add
    by_cases h0:i*c+j = 0
    ·rw [if_pos h0]
     show (⟨b,off+i*c+j,none⟩:Addr) = ⟨b,off,none⟩
     rw [Nat.add_assoc,h0,Nat.add_zero]
    ·rw [if_neg h0]
     show (⟨b,off+i*c+j,none⟩:Addr) = ⟨b,off+(i*c+j),none⟩
     rw [Nat.add_assoc]
   obtain ⟨u0,_,hu0⟩:=hcell 0 (by omega) 0 hc0
   obtain ⟨cells,T,fz,hblk⟩:∃ cells T fz,w.heap[b]? = some (.cells cells T fz):=by
    unfold World.cell? at hu0
    split at hu0
    ·rename_i c0 T0 f0 hb0
     exact ⟨_,_,_,hb0⟩
    ·cases hu0
   refine ⟨[slD T c ((List.range len).map f)],⟨T,_,fun r hr=>?_,rfl⟩,Good.one rfl fun s hw hS=>?_⟩
   ·obtain ⟨i,hi,rfl⟩:=List.mem_map.1 hr
    exact (hg i (by simpa using hi)).1
   ·refine ⟨_, cap, by simp, by simpa using hlc, hcap', fun _ => ⟨b, off, rfl, fun k hk => ?_⟩⟩
    have hk:k<len:=by simpa using hk
    have e:((List.range len).map f).getD k [] = f k:=by simp [List.getD_eq_getElem?_getD,hk]
    rw [e]
    obtain ⟨h1,h2,h3⟩:=hg k hk
    refine ⟨hR _ h1,cells,fz,by rw [hw];exact hblk,fun j hj=>⟨hS _ _ (As hblk),?_⟩⟩
    obtain ⟨u,h4,h5,h6⟩:=h3.2 s hw hS j hj
    obtain ⟨u',h7,h8⟩:=hcell k hk j (by rw [← hR _ h1];exact hj)
    rw [h4] at h7
    cases h7
    refine ⟨u,?_,h5,h6⟩
    have h9:=AJ (o:=off+k*c+j) hblk
    rw [h8] at h9
    exact h9.symm
theorem Good.cell {w : World} {v:Value} {d:D} (h:Good w [v] [d]) {s:GS} (hw:s.w = w) (hS:∀ b k,b<w.heap.size→s.S b k):d.rel s v:=by
 obtain ⟨u,h1,_,h3⟩:=h.2 s hw hS 0 (by simp)
 cases h1
 exact h3
def GS.all (w : World):GS:=⟨fun b _=>b<w.heap.size,fun _=>0,w⟩
theorem SN (w : World):(GS.all w).Ok:=⟨fun _ _ h=>h,fun _ _ ⟨_,_,h⟩=>As h⟩
end Go.Proofs.YtialdhnijjnpaaaGreat
