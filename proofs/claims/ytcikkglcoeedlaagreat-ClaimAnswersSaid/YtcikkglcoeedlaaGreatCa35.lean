/- Part 35 of the proof of claimAnswers_holds. No condition. -/
import Derived.Deep.Slices
import Derived.OpenShut
import Derived.Test.YtcikkglcoeedlaaGreatCa19
set_option linter.unusedSimpArgs false
set_option linter.unusedVariables false
set_option maxRecDepth 100000
namespace Go.Proofs.YtcikkglcoeedlaaGreat
variable{c vn:List D}{P:Program}{t U:TypeId}{w:World}
section
open Go.RowKit Go.Deep Go.ChangeShapes Go.WideShapes
def Good(w:World)(a:List Value)(R:List D):Prop:=
 a.length=R.length/\∀s:GS,s.w=w->(∀b k,b<w.heap.size->s.S b k)->∀k,k<R.length->∃u,a[k]? = some u/\u.oneCell'=true/\(Dd R k).rel s u
theorem Good.nil(w:World):Good w [] []:=⟨rfl,λ_ _ _ k C=>absurd C (Nat.not_lt_zero k)⟩
theorem Good.one{v:Value}{d:D}(A:v.oneCell'=true)(h:∀s:GS,s.w=w->(∀b k,b<w.heap.size->s.S b k)->d.rel s v):Good w [v] [d]:=
 ⟨rfl,λs W j k C=>by
  obtain rfl:k=0:=by simpa using C
  exact⟨v,rfl,A,h s W j⟩⟩
theorem Good.app{a b:List Value}(h:Good w a c)(k:Good w b vn):Good w (a++b) (c++vn):=
 ⟨by rw [List.length_append, List.length_append, h.1, k.1], fun s W E j C => by
  rw[List.length_append]at C;by_cases Q:j<c.length
  .obtain ⟨u,A,B,L⟩:=h.2 s W E j Q
   refine⟨u,by rw[List.getElem?_append_left (by rw[h.1];exact Q)];exact A,B,?_⟩;have e:Dd (c++vn) j=Dd c j:=by simp[Dd,List.getElem?_append_left Q]
   rwa [e]
  .obtain ⟨u, A, B, L⟩:=k.2 s W E (j-c.length) ZbK
   refine⟨u,by rw[List.getElem?_append_right (by rw[h.1];omega),h.1];exact A,B,?_⟩;have e:Dd (c++vn) j=Dd vn (j-c.length):=by simp[Dd,List.getElem?_append_right (show c.length<=j by omega)]
   rwa [e]⟩
def Opens(P:Program)(t:TypeId)(R:List D->Prop):Prop:=
 ∀(H:Type) (B:TypeId×Value->H) (w:World) (base:Nat) (spare:Nat->Bool) (held:Bool) (O:Nat) (a:List Value) (x:DataW H×List MemPlace),
  DataW.trod B P w base spare held O t a=some x->∃A,R A/\Good w a A
theorem Opens.mono{R U:List D->Prop}(h:Opens P t R)(b:∀C,R C->U C):Opens P t U:=λH F w base spare held O a x E=>
 let⟨C,A,B⟩:=h H F w base spare held O a x E
 ⟨C,b C A,B⟩
theorem Opens.int{κ:IntKind}(ht:P.underlying t=some (.int κ)):Opens P t λR=>∃z,(Lit.int κ z).wf=true/\R=[ex (.int κ z)]:=λH A w base spare held O a x E=>by
 obtain⟨z,rfl,_,W⟩:=DataW.trod_int ht E;exact⟨_,⟨z,W,rfl⟩,Good.one rfl λ_ _ _=>rfl⟩
theorem NE{w:World}{c:Nat}{R:List D->Prop}:∀(n:Nat) (a:List Value),a.length=n*c->(∀i,i<n->∃C,R C/\Good w ((a.drop (i*c)).take c) C)->∃y:List (List D),y.length=n/\(∀r∈y,R r)/\Good w a y.flatten
 | 0, a, K, _ => ⟨[], rfl, fun r b => (by cases b), by
   rw[Nat.zero_mul]at K;rw[List.eq_nil_of_length_eq_zero K];exact Good.nil w⟩
 |n+1,a,K,h=>by
  obtain⟨E,A,B⟩:=h 0 ZbK;rw[Nat.zero_mul,List.drop_zero]at B
  obtain ⟨y, L, V, m⟩ := NE (w := w) (c := c) (R := R) n (a.drop c) (by rw [List.length_drop, K, Nat.succ_mul]; omega) fun i M => by
   have:=h (i+1) ZbK;rwa [Nat.succ_mul,Nat.add_comm,<-List.drop_drop]at this
  refine⟨E::y,by rw[List.length_cons,L],λr b=>?_,?_⟩
  .rcases List.mem_cons.1 b with rfl | b
   .exact A
   .exact V r b
  .rw [List.flatten_cons,<-List.take_append_drop c a]
   exact B.app m
theorem Sn{n c:Nat}{R:List D->Prop}(J:P.underlying t=some (.array n U))(I:P.cellsOf U=c)(F:P.cellsOf t=n*c)(X:Opens P U R):Opens P t λC=>∃y:List (List D),y.length=n/\(∀r∈y,R r)/\C=y.flatten:=λH G w base spare held O a x E=>by
 obtain⟨Z,m,_,_,K,N,z⟩:=DataW.trod_array J E;rw[F]at K
 obtain⟨y,A,B,L⟩:=NE (R:=R) n a K λi M=>by
  have h:=z i M;rw[I,List.getElem?_eq_getElem ZbK]at h;exact X H G w base spare held m _ _ h
 exact⟨_,⟨y,A,B,rfl⟩,L⟩
def FieldsO(P:Program):Nat->List Field->List (List D->Prop)->Nat->Prop
 |off,[],[],n=>off=n
 |off,f::l,R::L,n=>f.offset=off/\Opens P f.type R/\FieldsO P (off+P.cellsOf f.type) l L n
 |_,_,_,_=>False
theorem FieldsO.nil{off n:Nat}(h:off=n):FieldsO P off [] [] n:=h
theorem FieldsO.cons{off n:Nat}{f:Field}{l:List Field}{R:List D->Prop}{Rs:List (List D->Prop)}(h:f.offset=off)(T:Opens P f.type R)(A:FieldsO P (off+P.cellsOf f.type) l Rs n):FieldsO P off (f::l) (R::Rs) n:=⟨h,T,A⟩
def A6a:List (List D->Prop)->List (List D)->Prop
 |[],[]=>True
 |R::L,d::l=>R d/\A6a L l
 |_,_=>False
theorem ND{P:Program}{w:World}{H:Type}{enc:TypeId×Value->H}{base:Nat}{spare:Nat->Bool}{held:Bool}{m n:Nat}{a:List Value}(K:a.length=n):∀{N:List Field} {O:List (List D->Prop)} {off:Nat},FieldsO P off N O n->off<=n->(∀f∈N,∃x,DataW.trod enc P w base spare held m f.type ((a.drop f.offset).take (P.cellsOf f.type))=some x)->∃l,A6a O l/\Good w (a.drop off) l.flatten
 |[],[],off,h,_,_=>⟨[],trivial,by
   have h:off=n:=h;rw[List.drop_eq_nil_of_le ZbK];exact Good.nil w⟩
 |[],_::_,_,h,_,_=>h.elim
 |_::_,[],_,h,_,_=>h.elim
 |f::N,R::O,off,h,C,E=>by
  obtain⟨A,B,L⟩:=h;obtain⟨x,j⟩:=E f ZbV;obtain⟨d,s,X⟩:=B H enc w base spare held m _ x j
  have F:off+P.cellsOf f.type<=n:=by
   clear E j s X B
   induction N generalizing off O f with
   |nil=>cases O with
    |nil=>have L:_=n:=L;omega
    |cons=>exact L.elim
   |cons g N q=>cases O with
    |nil=>exact L.elim
    |cons Q S=>
     obtain⟨c,v,G⟩:=L;by_cases M:off+P.cellsOf f.type<=n
     .exact M
     .exfalso
      have key:∀(N:List Field) (O:List (List D->Prop)) (o:Nat),FieldsO P o N O n->o<=n:=by
       intro N
       induction N with
       |nil=>intro O o h;cases O with
        |nil=>exact Nat.le_of_eq h
        |cons=>exact h.elim
       |cons f N q=>intro O o h;cases O with
        |nil=>exact h.elim
        |cons R O=>have:=q O _ h.2.2;omega
      have:=key _ _ _ G;omega
  obtain⟨l,U,J⟩:=ND K L F λg I=>E g (by simp[I]);refine⟨d::l,⟨s,U⟩,?_⟩;rw[List.flatten_cons];rw[A]at X;have:=X.app J;rwa [<-List.drop_drop,List.take_append_drop]at this
theorem Opens.struct{C:Array Field}{Rs:List (List D->Prop)}(J:P.underlying t=some (.struct C))(h:FieldsO P 0 C.toList Rs (P.cellsOf t)):Opens P t λR=>∃l,A6a Rs l/\R=l.flatten:=λH F w base spare held O a x E=>by
 obtain⟨Z,m,_,_,K,n,p⟩:=DataW.trod_struct J E
 obtain⟨l,A,B⟩:=ND (P:=P) (w:=w) (enc:=F) (base:=base) (spare:=spare) (held:=held) (m:=m) K h (Nat.zero_le _) λf G=>by
  obtain⟨i,M⟩:=List.mem_iff_getElem?.1 G;rw[Array.getElem?_toList]at M;have A:=p i f M;have Q:=(Array.getElem?_eq_some_iff.1 M).1;rw[List.getElem?_eq_getElem ZbK]at A;exact⟨_,A⟩
 exact⟨_,⟨l,A,rfl⟩,by rwa [List.drop_zero]at B⟩
theorem Opens.slice{t e:TypeId}{c:Nat}{R:List D->Prop}(J:P.underlying t=some (.slice e))(I:P.cellsOf e=c)(xc:0<c)(X:Opens P e R)(Y:∀F,R F->F.length=c):Opens P t λF=>∃T y,(∀r∈y,R r)/\F=[slD T c y]:=λH xb w base spare held xf G x E=>by
 rcases open_slice J E with⟨rfl,_⟩ | ⟨a,len,cap,m,n,Dx,Pl,rfl,hb,hlc,hcap,hm,_,hel⟩
 .exact ⟨_,⟨0,[],λr N=>(by cases N),rfl⟩,Good.one rfl λs _ _=>slD.nil _ _ s⟩
 .have xl:len<=m:=by rw [hm];split<;>omega
  have xj:cap<=9223372036854775807:=by simpa[maxLen]using hcap
  obtain⟨b,off,xh⟩:=a
  have xg:∀i,i<len->∃F xa,R F/\w.cells? base ((⟨b,off,xh⟩:Addr).add (i*c)) c=some xa/\Good w xa F:=λi M=>by
   obtain⟨xa,A,B⟩:=hel i ZbK;rw[I]at A;obtain⟨F,L,V⟩:=X H xb w base spare held n xa _ B;exact⟨F,xa,L,A,V⟩
  obtain⟨f,p⟩:=choose_lt xg;obtain⟨g,Z⟩:=choose_lt (p:=λi xa=>R (f i)/\w.cells? base ((⟨b,off,xh⟩:Addr).add (i*c)) c=some xa/\Good w xa (f i)) p;by_cases S:len=0
  .subst S
   exact⟨_,⟨0,[],λr N=>(by cases N),rfl⟩,Good.one rfl λs _ _=>⟨_,cap,rfl,by simp,xj,λh=>absurd h ZbV⟩⟩
  .have xk:xh=none:=by
    obtain⟨A,B,L⟩:=Z 0 ZbK;obtain⟨_,K,V⟩:=World.cells?_some B;have W:=V 0 xc;rw[List.getElem?_eq_getElem ZbK,Deep.add_add,Nat.zero_mul,Nat.add_zero]at W;have z:w.cell? ⟨b,off,xh⟩=_:=W;simpa using World.cell?_spot z
   subst xk
   have U:∀i,i<len->∀j,j<c->∃u,(g i)[j]? = some u/\w.cell? ⟨b,off+i*c+j,none⟩=some u:=λi M j O=>by
    obtain⟨A,B,L⟩:=Z i M;obtain⟨_,K,V⟩:=World.cells?_some B;have W:=V j ZbK;have Q:j<(g i).length:=by omega
    refine⟨(g i)[j],List.getElem?_eq_getElem Q,?_⟩;rw[List.getElem?_eq_getElem Q,Deep.add_add]at W;rw[<-W];congr 1;unfold Addr.add;by_cases S:i*c+j=0
    .rw [if_pos S]
     show(⟨b,off+i*c+j,none⟩:Addr)=⟨b,off,none⟩;rw[Nat.add_assoc,S,Nat.add_zero]
    .rw [if_neg S]
     show(⟨b,off+i*c+j,none⟩:Addr)=⟨b,off+(i*c+j),none⟩;rw[Nat.add_assoc]
   obtain⟨u0,_,xd⟩:=U 0 ZbK 0 xc
   obtain⟨cells,T,fz,xe⟩:∃cells T fz,w.heap[b]? = some (.cells cells T fz):=by
    unfold World.cell? at xd;split at xd
    .rename_i q T0 f0 xi
     exact⟨_,_,_,xi⟩
    .cases xd
   refine⟨[slD T c ((List.range len).map f)],⟨T,_,λr N=>?_,rfl⟩,Good.one rfl λs d o=>?_⟩
   .obtain ⟨i,M,rfl⟩:=List.mem_map.1 N
    exact(Z i (by simpa using M)).1
   .refine ⟨_, cap, by simp, by simpa using hlc, xj, λ_=>⟨b, off, rfl, λk C=>?_⟩⟩
    have C:k<len:=by simpa using C
    have e:((List.range len).map f).getD k []=f k:=by simp[List.getD_eq_getElem?_getD,C]
    rw[e];obtain⟨A,B,L⟩:=Z k C;refine⟨Y _ A,cells,fz,by rw[d];exact xe,λj O=>⟨o _ _ (Bm xe),?_⟩⟩;obtain⟨u,V,W,z⟩:=L.2 s d o j O;obtain⟨u',l,v⟩:=U k C j (by rw[<-Y _ A];exact O);rw[V]at l;cases l;refine⟨u,?_,W,z⟩;have h9:=CL (o:=off+k*c+j) xe;rw[v]at h9;exact h9.symm
theorem Good.agg{a:Array Value}(h:Good w a.toList c){s:GS}(W:s.w=w)(j:∀b k,b<w.heap.size->s.S b k):(AJ c).rel s (.agg a):=
 ⟨a, rfl, by simpa using h.1, fun k C => by
  obtain⟨u,A,B,L⟩:=h.2 s W j k C;exact⟨u,by simpa using A,B,L⟩⟩
def GS.all(w:World):GS:=⟨λb _=>b<w.heap.size,λ_=>0,w⟩
theorem A0J(w:World):(GS.all w).Ok:=⟨λ_ _ h=>h,λ_ _ ⟨_,_,h⟩=>Bm h⟩
end
end Go.Proofs.YtcikkglcoeedlaaGreat
