/- Part 20 of the proof of squaresGram_holds. No condition. -/
import Derived.Deep.Slices
import Derived.OpenShut
import Derived.Test.YtnbfnoebjjdmnaaGreatGm17
set_option linter.unusedSimpArgs false
set_option linter.unusedVariables false
set_option maxRecDepth 100000
namespace Go.Proofs.YtnbfnoebjjdmnaaGreat
open Go.RowKit Go.Deep Go.ChangeShapes Go.WideShapes
def Good(w:World)(cs:List Value)(ds:List D):Prop:=
 cs.length=ds.length/\∀s:GS,s.w=w->(∀b k,b<w.heap.size->s.S b k)->∀k,k<ds.length->∃u,cs[k]? = some u/\u.oneCell'=true/\(Cj ds k).rel s u
theorem Good.nil(w:World):Good w [] []:=⟨rfl,λ_ _ _ k hk=>absurd hk (Nat.not_lt_zero k)⟩
theorem Good.one{w:World}{v:Value}{d:D}(h1:v.oneCell'=true)(h:∀s:GS,s.w=w->(∀b k,b<w.heap.size->s.S b k)->d.rel s v):Good w [v] [d]:=
 ⟨rfl,λs hw hS k hk=>by
  obtain rfl:k=0:=by simpa using hk
  exact ⟨v,rfl,h1,h s hw hS⟩⟩
theorem Good.app{w:World}{a b:List Value}{da db:List D}(h:Good w a da)(k:Good w b db):Good w (a++b) (da++db):=
 ⟨by rw [List.length_append, List.length_append, h.1, k.1], fun s hw hS j hj => by
  rw [List.length_append] at hj
  by_cases hlt:j<da.length
  .obtain ⟨u,h1,h2,h3⟩:=h.2 s hw hS j hlt
   refine ⟨u,by rw [List.getElem?_append_left (by rw [h.1];exact hlt)];exact h1,h2,?_⟩
   have e:Cj (da++db) j=Cj da j:=by simp [Cj,List.getElem?_append_left hlt]
   rwa [e]
  .obtain ⟨u, h1, h2, h3⟩:=k.2 s hw hS (j-da.length) (by omega)
   refine ⟨u,by rw [List.getElem?_append_right (by rw [h.1];omega),h.1];exact h1,h2,?_⟩
   have e:Cj (da++db) j=Cj db (j-da.length):=by simp [Cj,List.getElem?_append_right (show da.length<=j by omega)]
   rwa [e]⟩
def Opens(P:Program)(t:TypeId)(R:List D->Prop):Prop:=
 ∀(H:Type) (enc:TypeId×Value->H) (w:World) (base:Nat) (spare:Nat->Bool) (held:Bool) (fuel:Nat) (cs:List Value) (x:DataW H×List MemPlace),
  DataW.trod enc P w base spare held fuel t cs=some x->∃ds,R ds/\Good w cs ds
theorem Opens.mono{P:Program}{t:TypeId}{R R':List D->Prop}(h:Opens P t R)(hr:∀ds,R ds->R' ds):Opens P t R':=λH enc w base spare held fuel cs x hx=>
 let ⟨ds,h1,h2⟩:=h H enc w base spare held fuel cs x hx
 ⟨ds,hr ds h1,h2⟩
theorem Opens.int{P:Program}{t:TypeId}{κ:IntKind}(ht:P.underlying t=some (.int κ)):Opens P t λds=>∃z,(Lit.int κ z).wf=true/\ds=[ex (.int κ z)]:=λH enc w base spare held fuel cs x hx=>by
 obtain ⟨z,rfl,_,hw⟩:=DataW.trod_int ht hx
 exact ⟨_,⟨z,hw,rfl⟩,Good.one rfl λ_ _ _=>rfl⟩
def FieldsO(P:Program):Nat->List Field->List (List D->Prop)->Nat->Prop
 | off,[],[],n=>off=n
 | off,f::fs,R::Rs,n=>f.offset=off/\Opens P f.type R/\FieldsO P (off+P.cellsOf f.type) fs Rs n
 | _,_,_,_=>False
theorem FieldsO.nil{P:Program}{off n:Nat}(h:off=n):FieldsO P off [] [] n:=h
theorem FieldsO.cons{P:Program}{off n:Nat}{f:Field}{fs:List Field}{R:List D->Prop}{Rs:List (List D->Prop)}(h:f.offset=off)(hR:Opens P f.type R)(hs:FieldsO P (off+P.cellsOf f.type) fs Rs n):FieldsO P off (f::fs) (R::Rs) n:=⟨h,hR,hs⟩
def A2T:List (List D->Prop)->List (List D)->Prop
 | [],[]=>True
 | R::Rs,d::l=>R d/\A2T Rs l
 | _,_=>False
theorem KC{P:Program}{w:World}{H:Type}{enc:TypeId×Value->H}{base:Nat}{spare:Nat->Bool}{held:Bool}{m n:Nat}{cs:List Value}(hl:cs.length=n):∀{fs:List Field} {Rs:List (List D->Prop)} {off:Nat},FieldsO P off fs Rs n->off<=n->(∀f∈fs,∃x,DataW.trod enc P w base spare held m f.type ((cs.drop f.offset).take (P.cellsOf f.type))=some x)->∃l,A2T Rs l/\Good w (cs.drop off) l.flatten
 | [],[],off,h,_,_=>⟨[],trivial,by
   have h:off=n:=h
   rw [List.drop_eq_nil_of_le (by omega)]
   exact Good.nil w⟩
 | [],_::_,_,h,_,_=>h.elim
 | _::_,[],_,h,_,_=>h.elim
 | f::fs,R::Rs,off,h,ho,hx=>by
  obtain ⟨h1,h2,h3⟩:=h
  obtain ⟨x,hx0⟩:=hx f (by simp)
  obtain ⟨d,hd1,hd2⟩:=h2 H enc w base spare held m _ x hx0
  have hlen:off+P.cellsOf f.type<=n:=by
   clear hx hx0 hd1 hd2 h2
   induction fs generalizing off Rs f with
   | nil=>cases Rs with
    | nil=>have h3:_=n:=h3;omega
    | cons=>exact h3.elim
   | cons g fs ih=>cases Rs with
    | nil=>exact h3.elim
    | cons R' Rs'=>
     obtain ⟨e1,e2,e3⟩:=h3
     by_cases hle:off+P.cellsOf f.type<=n
     .exact hle
     .exfalso
      have key:∀(fs:List Field) (Rs:List (List D->Prop)) (o:Nat),FieldsO P o fs Rs n->o<=n:=by
       intro fs
       induction fs with
       | nil=>intro Rs o h;cases Rs with
        | nil=>exact Nat.le_of_eq h
        | cons=>exact h.elim
       | cons f fs ih=>intro Rs o h;cases Rs with
        | nil=>exact h.elim
        | cons R Rs=>have:=ih Rs _ h.2.2;omega
      have:=key _ _ _ e3
      omega
  obtain ⟨l,hl1,hl2⟩:=KC hl h3 hlen λg hg=>hx g (by simp [hg])
  refine ⟨d::l,⟨hd1,hl1⟩,?_⟩
  rw [List.flatten_cons]
  rw [h1] at hd2
  have:=hd2.app hl2
  rwa [<-List.drop_drop,List.take_append_drop] at this
theorem Opens.struct{P:Program}{t:TypeId}{fs:Array Field}{Rs:List (List D->Prop)}(ht:P.underlying t=some (.struct fs))(h:FieldsO P 0 fs.toList Rs (P.cellsOf t)):Opens P t λds=>∃l,A2T Rs l/\ds=l.flatten:=λH enc w base spare held fuel cs x hx=>by
 obtain ⟨xs,m,_,_,hl,hxl,hf⟩:=DataW.trod_struct ht hx
 obtain ⟨l,h1,h2⟩:=KC (P:=P) (w:=w) (enc:=enc) (base:=base) (spare:=spare) (held:=held) (m:=m) hl h (Nat.zero_le _) λf hfm=>by
  obtain ⟨i,hi⟩:=List.mem_iff_getElem?.1 hfm
  rw [Array.getElem?_toList] at hi
  have h1:=hf i f hi
  have hlt:=(Array.getElem?_eq_some_iff.1 hi).1
  rw [List.getElem?_eq_getElem (by omega)] at h1
  exact ⟨_,h1⟩
 exact ⟨_,⟨l,h1,rfl⟩,by rwa [List.drop_zero] at h2⟩
theorem Opens.slice{P:Program}{t e:TypeId}{c:Nat}{R:List D->Prop}(ht:P.underlying t=some (.slice e))(hc:P.cellsOf e=c)(hc0:0<c)(he:Opens P e R)(hR:∀ds,R ds->ds.length=c):Opens P t λds=>∃T rows,(∀r∈rows,R r)/\ds=[slD T c rows]:=λH enc w base spare held fuel cs x hx=>by
 rcases open_slice ht hx with ⟨rfl,_⟩ | ⟨a,len,cap,m,n,Dx,Pl,rfl,hb,hlc,hcap,hm,_,hel⟩
 .exact ⟨_,⟨0,[],λr hr=>(by cases hr),rfl⟩,Good.one rfl λs _ _=>slD.nil _ _ s⟩
 .have hlm:len<=m:=by rw [hm]; split<;>omega
  have hcap':cap<=9223372036854775807:=by simpa [maxLen] using hcap
  obtain ⟨b,off,spot⟩:=a
  have hex:∀i,i<len->∃ds cs',R ds/\w.cells? base ((⟨b,off,spot⟩:Addr).add (i*c)) c=some cs'/\Good w cs' ds:=λi hi=>by
   obtain ⟨cs',h1,h2⟩:=hel i (by omega)
   rw [hc] at h1
   obtain ⟨ds,h3,h4⟩:=he H enc w base spare held n cs' _ h2
   exact ⟨ds,cs',h3,h1,h4⟩
  obtain ⟨f,hf⟩:=choose_lt hex
  obtain ⟨g,hg⟩:=choose_lt (p:=λi cs'=>R (f i)/\w.cells? base ((⟨b,off,spot⟩:Addr).add (i*c)) c=some cs'/\Good w cs' (f i)) hf
  by_cases h0:len=0
  .subst h0
   exact ⟨_,⟨0,[],λr hr=>(by cases hr),rfl⟩,Good.one rfl λs _ _=>⟨_,cap,rfl,by simp,hcap',λh=>absurd h (by simp)⟩⟩
  .have hspot:spot=none:=by
    obtain ⟨h1,h2,h3⟩:=hg 0 (by omega)
    obtain ⟨_,hl,h4⟩:=World.cells?_some h2
    have h5:=h4 0 hc0
    rw [List.getElem?_eq_getElem (by omega),Deep.add_add,Nat.zero_mul,Nat.add_zero] at h5
    have h6:w.cell? ⟨b,off,spot⟩=_:=h5
    simpa using World.cell?_spot h6
   subst hspot
   have hcell:∀i,i<len->∀j,j<c->∃u,(g i)[j]? = some u/\w.cell? ⟨b,off+i*c+j,none⟩=some u:=λi hi j hj=>by
    obtain ⟨h1,h2,h3⟩:=hg i hi
    obtain ⟨_,hl,h4⟩:=World.cells?_some h2
    have h5:=h4 j (by omega)
    have hlt:j<(g i).length:=by omega
    refine ⟨(g i)[j],List.getElem?_eq_getElem hlt,?_⟩
    rw [List.getElem?_eq_getElem hlt,Deep.add_add] at h5
    rw [<-h5]
    congr 1
    unfold Addr.add
    by_cases h0:i*c+j=0
    .rw [if_pos h0]
     show (⟨b,off+i*c+j,none⟩:Addr)=⟨b,off,none⟩
     rw [Nat.add_assoc,h0,Nat.add_zero]
    .rw [if_neg h0]
     show (⟨b,off+i*c+j,none⟩:Addr)=⟨b,off+(i*c+j),none⟩
     rw [Nat.add_assoc]
   obtain ⟨u0,_,hu0⟩:=hcell 0 (by omega) 0 hc0
   obtain ⟨cells,T,fz,hblk⟩:∃cells T fz,w.heap[b]? = some (.cells cells T fz):=by
    unfold World.cell? at hu0
    split at hu0
    .rename_i c0 T0 f0 hb0
     exact ⟨_,_,_,hb0⟩
    .cases hu0
   refine ⟨[slD T c ((List.range len).map f)],⟨T,_,λr hr=>?_,rfl⟩,Good.one rfl λs hw hS=>?_⟩
   .obtain ⟨i,hi,rfl⟩:=List.mem_map.1 hr
    exact (hg i (by simpa using hi)).1
   .refine ⟨_, cap, by simp, by simpa using hlc, hcap', λ_=>⟨b, off, rfl, λk hk=>?_⟩⟩
    have hk:k<len:=by simpa using hk
    have e:((List.range len).map f).getD k []=f k:=by simp [List.getD_eq_getElem?_getD,hk]
    rw [e]
    obtain ⟨h1,h2,h3⟩:=hg k hk
    refine ⟨hR _ h1,cells,fz,by rw [hw];exact hblk,λj hj=>⟨hS _ _ (AU hblk),?_⟩⟩
    obtain ⟨u,h4,h5,h6⟩:=h3.2 s hw hS j hj
    obtain ⟨u',h7,h8⟩:=hcell k hk j (by rw [<-hR _ h1];exact hj)
    rw [h4] at h7
    cases h7
    refine ⟨u,?_,h5,h6⟩
    have h9:=BK (o:=off+k*c+j) hblk
    rw [h8] at h9
    exact h9.symm
theorem Good.agg{w:World}{cs:Array Value}{ds:List D}(h:Good w cs.toList ds){s:GS}(hw:s.w=w)(hS:∀b k,b<w.heap.size->s.S b k):(BF ds).rel s (.agg cs):=
 ⟨cs, rfl, by simpa using h.1, fun k hk => by
  obtain ⟨u,h1,h2,h3⟩:=h.2 s hw hS k hk
  exact ⟨u,by simpa using h1,h2,h3⟩⟩
def GS.all(w:World):GS:=⟨λb _=>b<w.heap.size,λ_=>0,w⟩
theorem Xi(w:World):(GS.all w).Ok:=⟨λ_ _ h=>h,λ_ _ ⟨_,_,h⟩=>AU h⟩
end Go.Proofs.YtnbfnoebjjdmnaaGreat
