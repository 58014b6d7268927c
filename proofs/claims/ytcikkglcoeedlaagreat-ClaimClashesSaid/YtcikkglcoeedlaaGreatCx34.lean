/- Part 34 of the proof of claimClashes_holds. No condition. -/
import Derived.Deep.Slices
import Derived.OpenShut
import Derived.Test.YtcikkglcoeedlaaGreatCx18
set_option linter.unusedSimpArgs false
set_option linter.unusedVariables false
set_option maxRecDepth 100000
namespace Go.Proofs.YtcikkglcoeedlaaGreat
variable{c vk:List D}{P:Program}{t U:TypeId}{w:World}
section
open Go.RowKit Go.Deep Go.ChangeShapes Go.WideShapes
def Good(w:World)(Z:List Value)(R:List D):Prop:=
 Z.length=R.length/\∀s:GS,s.w=w->(∀b k,b<w.heap.size->s.S b k)->∀k,k<R.length->∃u,Z[k]? = some u/\u.oneCell'=true/\(Df R k).rel s u
theorem Good.nil(w:World):Good w [] []:=⟨rfl,λ_ _ _ k B=>absurd B (Nat.not_lt_zero k)⟩
theorem Good.one{v:Value}{d:D}(u:v.oneCell'=true)(h:∀s:GS,s.w=w->(∀b k,b<w.heap.size->s.S b k)->d.rel s v):Good w [v] [d]:=
 ⟨rfl,λs V l k B=>by
  obtain rfl:k=0:=by simpa using B
  exact⟨v,rfl,u,h s V l⟩⟩
theorem Good.app{a b:List Value}(h:Good w a c)(k:Good w b vk):Good w (a++b) (c++vk):=
 ⟨by rw [List.length_append, List.length_append, h.1, k.1], fun s V l j i => by
  rw[List.length_append]at i;by_cases Q:j<c.length
  .obtain ⟨u,A,B,I⟩:=h.2 s V l j Q
   refine⟨u,by rw[List.getElem?_append_left (by rw[h.1];exact Q)];exact A,B,?_⟩;have e:Df (c++vk) j=Df c j:=by simp[Df,List.getElem?_append_left Q]
   rwa [e]
  .obtain ⟨u, A, B, I⟩:=k.2 s V l (j-c.length) Zbx
   refine⟨u,by rw[List.getElem?_append_right (by rw[h.1];omega),h.1];exact A,B,?_⟩;have e:Df (c++vk) j=Df vk (j-c.length):=by simp[Df,List.getElem?_append_right (show c.length<=j by omega)]
   rwa [e]⟩
def Opens(P:Program)(t:TypeId)(R:List D->Prop):Prop:=
 ∀(H:Type) (n:TypeId×Value->H) (w:World) (base:Nat) (spare:Nat->Bool) (held:Bool) (A:Nat) (Z:List Value) (x:DataW H×List MemPlace),
  DataW.trod n P w base spare held A t Z=some x->∃u,R u/\Good w Z u
theorem Opens.mono{R S:List D->Prop}(h:Opens P t R)(Y:∀B,R B->S B):Opens P t S:=λH n w base spare held E Z x C=>
 let⟨B,u,A⟩:=h H n w base spare held E Z x C
 ⟨B,Y B u,A⟩
theorem Opens.int{κ:IntKind}(ht:P.underlying t=some (.int κ)):Opens P t λR=>∃z,(Lit.int κ z).wf=true/\R=[ex (.int κ z)]:=λH n w base spare held u Z x C=>by
 obtain⟨z,rfl,_,V⟩:=DataW.trod_int ht C;exact⟨_,⟨z,V,rfl⟩,Good.one rfl λ_ _ _=>rfl⟩
theorem MY{w:World}{c:Nat}{R:List D->Prop}:∀(n:Nat) (Z:List Value),Z.length=n*c->(∀i,i<n->∃B,R B/\Good w ((Z.drop (i*c)).take c) B)->∃P:List (List D),P.length=n/\(∀r∈P,R r)/\Good w Z P.flatten
 | 0, Z, L, _ => ⟨[], rfl, fun r Y => (by cases Y), by
   rw[Nat.zero_mul]at L;rw[List.eq_nil_of_length_eq_zero L];exact Good.nil w⟩
 |n+1,Z,L,h=>by
  obtain⟨z,u,A⟩:=h 0 Zbx;rw[Nat.zero_mul,List.drop_zero]at A
  obtain ⟨P, I, V, m⟩ := MY (w := w) (c := c) (R := R) n (Z.drop c) (by rw [List.length_drop, L, Nat.succ_mul]; omega) fun i K => by
   have:=h (i+1) Zbx;rwa [Nat.succ_mul,Nat.add_comm,<-List.drop_drop]at this
  refine⟨z::P,by rw[List.length_cons,I],λr Y=>?_,?_⟩
  .rcases List.mem_cons.1 Y with rfl | Y
   .exact u
   .exact V r Y
  .rw [List.flatten_cons,<-List.take_append_drop c Z]
   exact A.app m
theorem Rz{n c:Nat}{R:List D->Prop}(M:P.underlying t=some (.array n U))(G:P.cellsOf U=c)(E:P.cellsOf t=n*c)(a:Opens P U R):Opens P t λB=>∃F:List (List D),F.length=n/\(∀r∈F,R r)/\B=F.flatten:=λH N w base spare held O Z x C=>by
 obtain⟨f,m,_,_,L,k,j⟩:=DataW.trod_array M C;rw[E]at L
 obtain⟨F,u,A,I⟩:=MY (R:=R) n Z L λi K=>by
  have h:=j i K;rw[G,List.getElem?_eq_getElem Zbx]at h;exact a H N w base spare held m _ _ h
 exact⟨_,⟨F,u,A,rfl⟩,I⟩
def FieldsO(P:Program):Nat->List Field->List (List D->Prop)->Nat->Prop
 |off,[],[],n=>off=n
 |off,f::c,R::G,n=>f.offset=off/\Opens P f.type R/\FieldsO P (off+P.cellsOf f.type) c G n
 |_,_,_,_=>False
theorem FieldsO.nil{off n:Nat}(h:off=n):FieldsO P off [] [] n:=h
theorem FieldsO.cons{off n:Nat}{f:Field}{c:List Field}{R:List D->Prop}{Rs:List (List D->Prop)}(h:f.offset=off)(J:Opens P f.type R)(b:FieldsO P (off+P.cellsOf f.type) c Rs n):FieldsO P off (f::c) (R::Rs) n:=⟨h,J,b⟩
def A5b:List (List D->Prop)->List (List D)->Prop
 |[],[]=>True
 |R::G,d::l=>R d/\A5b G l
 |_,_=>False
theorem MX{P:Program}{w:World}{H:Type}{enc:TypeId×Value->H}{base:Nat}{spare:Nat->Bool}{held:Bool}{m n:Nat}{Z:List Value}(L:Z.length=n):∀{c:List Field} {Q:List (List D->Prop)} {off:Nat},FieldsO P off c Q n->off<=n->(∀f∈c,∃x,DataW.trod enc P w base spare held m f.type ((Z.drop f.offset).take (P.cellsOf f.type))=some x)->∃l,A5b Q l/\Good w (Z.drop off) l.flatten
 |[],[],off,h,_,_=>⟨[],trivial,by
   have h:off=n:=h;rw[List.drop_eq_nil_of_le Zbx];exact Good.nil w⟩
 |[],_::_,_,h,_,_=>h.elim
 |_::_,[],_,h,_,_=>h.elim
 |f::c,R::Q,off,h,E,C=>by
  obtain⟨u,A,I⟩:=h;obtain⟨x,W⟩:=C f ZbK;obtain⟨d,V,S⟩:=A H enc w base spare held m _ x W
  have K:off+P.cellsOf f.type<=n:=by
   clear C W V S A
   induction c generalizing off Q f with
   |nil=>cases Q with
    |nil=>have I:_=n:=I;omega
    |cons=>exact I.elim
   |cons g c F=>cases Q with
    |nil=>exact I.elim
    |cons X Y=>
     obtain⟨B,v,U⟩:=I;by_cases O:off+P.cellsOf f.type<=n
     .exact O
     .exfalso
      have key:∀(c:List Field) (Q:List (List D->Prop)) (o:Nat),FieldsO P o c Q n->o<=n:=by
       intro c
       induction c with
       |nil=>intro Q o h;cases Q with
        |nil=>exact Nat.le_of_eq h
        |cons=>exact h.elim
       |cons f c F=>intro Q o h;cases Q with
        |nil=>exact h.elim
        |cons R Q=>have:=F Q _ h.2.2;omega
      have:=key _ _ _ U;omega
  obtain⟨l,M,N⟩:=MX L I K λg G=>C g (by simp[G]);refine⟨d::l,⟨V,M⟩,?_⟩;rw[List.flatten_cons];rw[u]at S;have:=S.app N;rwa [<-List.drop_drop,List.take_append_drop]at this
theorem Opens.struct{c:Array Field}{Rs:List (List D->Prop)}(M:P.underlying t=some (.struct c))(h:FieldsO P 0 c.toList Rs (P.cellsOf t)):Opens P t λR=>∃l,A5b Rs l/\R=l.flatten:=λH n w base spare held E Z x C=>by
 obtain⟨B,m,_,_,L,k,p⟩:=DataW.trod_struct M C
 obtain⟨l,u,A⟩:=MX (P:=P) (w:=w) (enc:=n) (base:=base) (spare:=spare) (held:=held) (m:=m) L h (Nat.zero_le _) λf y=>by
  obtain⟨i,K⟩:=List.mem_iff_getElem?.1 y;rw[Array.getElem?_toList]at K;have u:=p i f K;have Q:=(Array.getElem?_eq_some_iff.1 K).1;rw[List.getElem?_eq_getElem Zbx]at u;exact⟨_,u⟩
 exact⟨_,⟨l,u,rfl⟩,by rwa [List.drop_zero]at A⟩
theorem Opens.slice{t e:TypeId}{c:Nat}{R:List D->Prop}(M:P.underlying t=some (.slice e))(G:P.cellsOf e=c)(xc:0<c)(N:Opens P e R)(J:∀F,R F->F.length=c):Opens P t λF=>∃T X,(∀r∈X,R r)/\F=[slD T c X]:=λH xb w base spare held xf Z x E=>by
 rcases open_slice M E with⟨rfl,_⟩ | ⟨a,len,cap,m,n,Dx,Pl,rfl,hb,hlc,hcap,hm,_,hel⟩
 .exact ⟨_,⟨0,[],λr Y=>(by cases Y),rfl⟩,Good.one rfl λs _ _=>slD.nil _ _ s⟩
 .have xl:len<=m:=by rw [hm];split<;>omega
  have xj:cap<=9223372036854775807:=by simpa[maxLen]using hcap
  obtain⟨b,off,xh⟩:=a
  have xg:∀i,i<len->∃F xa,R F/\w.cells? base ((⟨b,off,xh⟩:Addr).add (i*c)) c=some xa/\Good w xa F:=λi K=>by
   obtain⟨xa,A,B⟩:=hel i Zbx;rw[G]at A;obtain⟨F,I,V⟩:=N H xb w base spare held n xa _ B;exact⟨F,xa,I,A,V⟩
  obtain⟨f,p⟩:=choose_lt xg;obtain⟨g,d⟩:=choose_lt (p:=λi xa=>R (f i)/\w.cells? base ((⟨b,off,xh⟩:Addr).add (i*c)) c=some xa/\Good w xa (f i)) p;by_cases O:len=0
  .subst O
   exact⟨_,⟨0,[],λr Y=>(by cases Y),rfl⟩,Good.one rfl λs _ _=>⟨_,cap,rfl,by simp,xj,λh=>absurd h ZbK⟩⟩
  .have xk:xh=none:=by
    obtain⟨A,B,I⟩:=d 0 Zbx;obtain⟨_,L,V⟩:=World.cells?_some B;have W:=V 0 xc;rw[List.getElem?_eq_getElem Zbx,Deep.add_add,Nat.zero_mul,Nat.add_zero]at W;have y:w.cell? ⟨b,off,xh⟩=_:=W;simpa using World.cell?_spot y
   subst xk
   have U:∀i,i<len->∀j,j<c->∃u,(g i)[j]? = some u/\w.cell? ⟨b,off+i*c+j,none⟩=some u:=λi K j S=>by
    obtain⟨A,B,I⟩:=d i K;obtain⟨_,L,V⟩:=World.cells?_some B;have W:=V j Zbx;have Q:j<(g i).length:=by omega
    refine⟨(g i)[j],List.getElem?_eq_getElem Q,?_⟩;rw[List.getElem?_eq_getElem Q,Deep.add_add]at W;rw[<-W];congr 1;unfold Addr.add;by_cases O:i*c+j=0
    .rw [if_pos O]
     show(⟨b,off+i*c+j,none⟩:Addr)=⟨b,off,none⟩;rw[Nat.add_assoc,O,Nat.add_zero]
    .rw [if_neg O]
     show(⟨b,off+i*c+j,none⟩:Addr)=⟨b,off+(i*c+j),none⟩;rw[Nat.add_assoc]
   obtain⟨u0,_,xd⟩:=U 0 Zbx 0 xc
   obtain⟨cells,T,fz,xe⟩:∃cells T fz,w.heap[b]? = some (.cells cells T fz):=by
    unfold World.cell? at xd;split at xd
    .rename_i v T0 f0 xi
     exact⟨_,_,_,xi⟩
    .cases xd
   refine⟨[slD T c ((List.range len).map f)],⟨T,_,λr Y=>?_,rfl⟩,Good.one rfl λs l q=>?_⟩
   .obtain ⟨i,K,rfl⟩:=List.mem_map.1 Y
    exact(d i Zee).1
   .refine ⟨_, cap, by simp, by simpa using hlc, xj, λ_=>⟨b, off, rfl, λk C=>?_⟩⟩
    have C:k<len:=by simpa using C
    have e:((List.range len).map f).getD k []=f k:=by simp[List.getD_eq_getElem?_getD,C]
    rw[e];obtain⟨A,B,I⟩:=d k C;refine⟨J _ A,cells,fz,by rw[l];exact xe,λj S=>⟨q _ _ (Bj xe),?_⟩⟩;obtain⟨u,V,W,y⟩:=I.2 s l q j S;obtain⟨u',o,z⟩:=U k C j (by rw[<-J _ A];exact S);rw[V]at o;cases o;refine⟨u,?_,W,y⟩;have h9:=CH (o:=off+k*c+j) xe;rw[z]at h9;exact h9.symm
theorem Good.agg{Z:Array Value}(h:Good w Z.toList c){s:GS}(V:s.w=w)(l:∀b k,b<w.heap.size->s.S b k):(AL c).rel s (.agg Z):=
 ⟨Z, rfl, by simpa using h.1, fun k C => by
  obtain⟨u,A,B,I⟩:=h.2 s V l k C;exact⟨u,by simpa using A,B,I⟩⟩
def GS.all(w:World):GS:=⟨λb _=>b<w.heap.size,λ_=>0,w⟩
theorem ZS(w:World):(GS.all w).Ok:=⟨λ_ _ h=>h,λ_ _ ⟨_,_,h⟩=>Bj h⟩
end
end Go.Proofs.YtcikkglcoeedlaaGreat
