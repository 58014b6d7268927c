/- Part 34. No condition. -/
import Derived.Deep.Slices
import Derived.OpenShut
import Derived.Test.YtcikkglcoeedlaaGreatBk17
set_option linter.unusedSimpArgs false
set_option linter.unusedVariables false
set_option maxRecDepth 100000
namespace Go.Proofs.YtcikkglcoeedlaaGreat
variable{v vn:List D}{P:Program}{t U:TypeId}{w:World}
section
open Go.RowKit Go.Deep Go.ChangeShapes Go.WideShapes
def Good(w:World)(h:List Value)(R:List D):Prop:=
 h.length=R.length/\∀s:GS,s.w=w->(∀b k,b<w.heap.size->s.S b k)->∀k,k<R.length->∃u,h[k]? = some u/\u.oneCell'=true/\(DK R k).rel s u
theorem Good.nil(w:World):Good w [] []:=⟨rfl,λ_ _ _ k C=>absurd C (Ybh k)⟩
theorem Good.one{v:Value}{d:D}(A:v.oneCell'=true)(h:∀s:GS,s.w=w->(∀b k,b<w.heap.size->s.S b k)->d.rel s v):Good w [v] [d]:=
 ⟨rfl,λs B r k C=>by
  obtain rfl:k=0:=by simpa using C
  exact⟨v,rfl,A,h s B r⟩⟩
theorem Good.app{a b:List Value}(h:Good w a v)(k:Good w b vn):Good w (a++b) (v++vn):=
 ⟨by rw [Yaa, Yaa, h.1, k.1], fun s d r j C => by
  rw[Yaa]at C;by_cases Q:j<v.length
  .obtain ⟨u,A,B,L⟩:=h.2 s d r j Q
   refine⟨u,by rw[Yau (by rw[h.1];exact Q)];exact A,B,?_⟩;have e:DK (v++vn) j=DK v j:=by simp[DK,Yau Q]
   rwa [e]
  .obtain ⟨u, A, B, L⟩:=k.2 s d r (j-v.length) ZbD
   refine⟨u,by rw[Yal (by rw[h.1];omega),h.1];exact A,B,?_⟩;have e:DK (v++vn) j=DK vn (j-v.length):=by simp[DK,Yal (show v.length<=j by omega)]
   rwa [e]⟩
def Opens(P:Program)(t:TypeId)(R:List D->Prop):Prop:=
 ∀(H:Type) (K:TypeId×Value->H) (w:World) (base:Nat) (spare:Nat->Bool) (held:Bool) (J:Nat) (h:List Value) (x:DataW H×List MemPlace),
  DataW.trod K P w base spare held J t h=some x->∃A,R A/\Good w h A
theorem Opens.mono{R O:List D->Prop}(h:Opens P t R)(X:∀C,R C->O C):Opens P t O:=λH K w base spare held J F x E=>
 let⟨C,A,B⟩:=h H K w base spare held J F x E
 ⟨C,X C A,B⟩
theorem Opens.int{κ:IntKind}(ht:P.underlying t=some (.int κ)):Opens P t λR=>∃z,(Lit.int κ z).wf=true/\R=[ex (.int κ z)]:=λH K w base spare held J h x E=>by
 obtain⟨z,rfl,_,d⟩:=DataW.trod_int ht E;exact⟨_,⟨z,d,rfl⟩,Good.one rfl λ_ _ _=>rfl⟩
theorem PL{w:World}{c:Nat}{R:List D->Prop}:∀(n:Nat) (E:List Value),E.length=n*c->(∀i,i<n->∃C,R C/\Good w ((E.drop (i*c)).take c) C)->∃G:List (List D),G.length=n/\(∀r∈G,R r)/\Good w E G.flatten
 | 0, E, J, _ => ⟨[], rfl, fun r X => (by cases X), by
   rw[YcC]at J;rw[YaF J];exact Good.nil w⟩
 |n+1,E,J,h=>by
  obtain⟨x,A,B⟩:=h 0 ZbD;rw[YcC,YaU]at B
  obtain ⟨G, L, S, F⟩ := PL (w := w) (c := c) (R := R) n (E.drop c) (by rw [YbQ, J, YcW]; omega) fun i K => by
   have:=h (i+1) ZbD;rwa [YcW,YcX,<-Ydi]at this
  refine⟨x::G,by rw[Yav,L],λr X=>?_,?_⟩
  .rcases YaK.1 X with rfl | X
   .exact A
   .exact S r X
  .rw [List.flatten_cons,<-Yca c E]
   exact B.app F
theorem A3L{n c:Nat}{R:List D->Prop}(M:P.underlying t=some (.array n U))(I:P.cellsOf U=c)(f:P.cellsOf t=n*c)(b:Opens P U R):Opens P t λC=>∃G:List (List D),G.length=n/\(∀r∈G,R r)/\C=G.flatten:=λH O w base spare held Q F x E=>by
 obtain⟨N,m,_,_,J,l,d⟩:=DataW.trod_array M E;rw[f]at J
 obtain⟨G,A,B,L⟩:=PL (R:=R) n F J λi K=>by
  have h:=d i K;rw[I,Yac ZbD]at h;exact b H O w base spare held m _ _ h
 exact⟨_,⟨G,A,B,rfl⟩,L⟩
def FieldsO(P:Program):Nat->List Field->List (List D->Prop)->Nat->Prop
 |off,[],[],n=>off=n
 |off,f::r,R::c,n=>f.offset=off/\Opens P f.type R/\FieldsO P (off+P.cellsOf f.type) r c n
 |_,_,_,_=>False
theorem FieldsO.nil{off n:Nat}(h:off=n):FieldsO P off [] [] n:=h
theorem FieldsO.cons{off n:Nat}{f:Field}{r:List Field}{R:List D->Prop}{Rs:List (List D->Prop)}(h:f.offset=off)(E:Opens P f.type R)(Y:FieldsO P (off+P.cellsOf f.type) r Rs n):FieldsO P off (f::r) (R::Rs) n:=⟨h,E,Y⟩
def Aaz:List (List D->Prop)->List (List D)->Prop
 |[],[]=>True
 |R::c,d::l=>R d/\Aaz c l
 |_,_=>False
theorem PK{P:Program}{w:World}{H:Type}{enc:TypeId×Value->H}{base:Nat}{spare:Nat->Bool}{held:Bool}{m n:Nat}{C:List Value}(J:C.length=n):∀{r:List Field} {c:List (List D->Prop)} {off:Nat},FieldsO P off r c n->off<=n->(∀f∈r,∃x,DataW.trod enc P w base spare held m f.type ((C.drop f.offset).take (P.cellsOf f.type))=some x)->∃l,Aaz c l/\Good w (C.drop off) l.flatten
 |[],[],off,h,_,_=>⟨[],trivial,by
   have h:off=n:=h;rw[YaL ZbD];exact Good.nil w⟩
 |[],_::_,_,h,_,_=>h.elim
 |_::_,[],_,h,_,_=>h.elim
 |f::r,R::c,off,h,q,E=>by
  obtain⟨A,B,L⟩:=h;obtain⟨x,O⟩:=E f ZbS;obtain⟨d,N,t⟩:=B H enc w base spare held m _ x O
  have G:off+P.cellsOf f.type<=n:=by
   clear E O N t B
   induction r generalizing off c f with
   |nil=>cases c with
    |nil=>have L:_=n:=L;omega
    |cons=>exact L.elim
   |cons g r u=>cases c with
    |nil=>exact L.elim
    |cons Q a=>
     obtain⟨Z,s,I⟩:=L;by_cases i:off+P.cellsOf f.type<=n
     .exact i
     .exfalso
      have key:∀(r:List Field) (c:List (List D->Prop)) (o:Nat),FieldsO P o r c n->o<=n:=by
       intro r
       induction r with
       |nil=>intro c o h;cases c with
        |nil=>exact Nat.le_of_eq h
        |cons=>exact h.elim
       |cons f r u=>intro c o h;cases c with
        |nil=>exact h.elim
        |cons R c=>have:=u c _ h.2.2;omega
      have:=key _ _ _ I;omega
  obtain⟨l,M,K⟩:=PK J L G λg F=>E g (by simp[F]);refine⟨d::l,⟨N,M⟩,?_⟩;rw[List.flatten_cons];rw[A]at t;have:=t.app K;rwa [<-Ydi,Yca]at this
theorem Opens.struct{r:Array Field}{Rs:List (List D->Prop)}(M:P.underlying t=some (.struct r))(h:FieldsO P 0 r.toList Rs (P.cellsOf t)):Opens P t λR=>∃l,Aaz Rs l/\R=l.flatten:=λH I w base spare held N C x E=>by
 obtain⟨G,m,_,_,J,L,F⟩:=DataW.trod_struct M E
 obtain⟨l,A,B⟩:=PK (P:=P) (w:=w) (enc:=I) (base:=base) (spare:=spare) (held:=held) (m:=m) J h (Yaw _) λf S=>by
  obtain⟨i,K⟩:=List.mem_iff_getElem?.1 S;rw[Ycr]at K;have A:=F i f K;have Q:=(Ybx.1 K).1;rw[Yac ZbD]at A;exact⟨_,A⟩
 exact⟨_,⟨l,A,rfl⟩,by rwa [YaU]at B⟩
theorem Opens.slice{t e:TypeId}{c:Nat}{R:List D->Prop}(M:P.underlying t=some (.slice e))(I:P.cellsOf e=c)(xd:0<c)(N:Opens P e R)(o:∀F,R F->F.length=c):Opens P t λF=>∃T l,(∀r∈l,R r)/\F=[slD T c l]:=λH xb w base spare held xf V x E=>by
 rcases open_slice M E with⟨rfl,_⟩ | ⟨a,len,cap,m,n,Dx,Pl,rfl,hb,hlc,hcap,hm,_,hel⟩
 .exact ⟨_,⟨0,[],λr X=>(by cases X),rfl⟩,Good.one rfl λs _ _=>slD.nil _ _ s⟩
 .have xj:len<=m:=by rw [hm];split<;>omega
  have xk:cap<=9223372036854775807:=by simpa[maxLen]using hcap
  obtain⟨b,off,xi⟩:=a
  have xg:∀i,i<len->∃F xa,R F/\w.cells? base ((⟨b,off,xi⟩:Addr).add (i*c)) c=some xa/\Good w xa F:=λi K=>by
   obtain⟨xa,A,B⟩:=hel i ZbD;rw[I]at A;obtain⟨F,L,S⟩:=N H xb w base spare held n xa _ B;exact⟨F,xa,L,A,S⟩
  obtain⟨f,Y⟩:=choose_lt xg;obtain⟨g,Z⟩:=choose_lt (p:=λi xa=>R (f i)/\w.cells? base ((⟨b,off,xi⟩:Addr).add (i*c)) c=some xa/\Good w xa (f i)) Y;by_cases O:len=0
  .subst O
   exact⟨_,⟨0,[],λr X=>(by cases X),rfl⟩,Good.one rfl λs _ _=>⟨_,cap,rfl,by simp,xk,λh=>absurd h ZbS⟩⟩
  .have xl:xi=none:=by
    obtain⟨A,B,L⟩:=Z 0 ZbD;obtain⟨_,J,S⟩:=World.cells?_some B;have W:=S 0 xd;rw[Yac ZbD,Deep.add_add,YcC,Ybd]at W;have d:w.cell? ⟨b,off,xi⟩=_:=W;simpa using World.cell?_spot d
   subst xl
   have U:∀i,i<len->∀j,j<c->∃u,(g i)[j]? = some u/\w.cell? ⟨b,off+i*c+j,none⟩=some u:=λi K j G=>by
    obtain⟨A,B,L⟩:=Z i K;obtain⟨_,J,S⟩:=World.cells?_some B;have W:=S j ZbD;have Q:j<(g i).length:=by omega
    refine⟨(g i)[j],Yac Q,?_⟩;rw[Yac Q,Deep.add_add]at W;rw[<-W];congr 1;unfold Addr.add;by_cases O:i*c+j=0
    .rw [Yan O]
     show(⟨b,off+i*c+j,none⟩:Addr)=⟨b,off,none⟩;rw[YbM,O,Ybd]
    .rw [Yai O]
     show(⟨b,off+i*c+j,none⟩:Addr)=⟨b,off+(i*c+j),none⟩;rw[YbM]
   obtain⟨u0,_,xc⟩:=U 0 ZbD 0 xd
   obtain⟨cells,T,fz,xe⟩:∃cells T fz,w.heap[b]? = some (.cells cells T fz):=by
    unfold World.cell? at xc;split at xc
    .rename_i p T0 f0 xh
     exact⟨_,_,_,xh⟩
    .cases xc
   refine⟨[slD T c ((List.range len).map f)],⟨T,_,λr X=>?_,rfl⟩,Good.one rfl λs q y=>?_⟩
   .obtain ⟨i,K,rfl⟩:=YaA.1 X
    exact(Z i (by simpa using K)).1
   .refine ⟨_, cap, by simp, by simpa using hlc, xk, λ_=>⟨b, off, rfl, λk C=>?_⟩⟩
    have C:k<len:=by simpa using C
    have e:((List.range len).map f).getD k []=f k:=by simp[Yab,C]
    rw[e];obtain⟨A,B,L⟩:=Z k C;refine⟨o _ A,cells,fz,by rw[q];exact xe,λj G=>⟨y _ _ (Bw xe),?_⟩⟩;obtain⟨u,S,W,d⟩:=L.2 s q y j G;obtain⟨u',v,z⟩:=U k C j (by rw[<-o _ A];exact G);rw[S]at v;cases v;refine⟨u,?_,W,d⟩;have h9:=Dh (o:=off+k*c+j) xe;rw[z]at h9;exact h9.symm
theorem Good.agg{E:Array Value}(h:Good w E.toList v){s:GS}(d:s.w=w)(r:∀b k,b<w.heap.size->s.S b k):(AP v).rel s (.agg E):=
 ⟨E, rfl, by simpa using h.1, fun k C => by
  obtain⟨u,A,B,L⟩:=h.2 s d r k C;exact⟨u,by simpa using A,B,L⟩⟩
def GS.all(w:World):GS:=⟨λb _=>b<w.heap.size,λ_=>0,w⟩
theorem A3O(w:World):(GS.all w).Ok:=⟨λ_ _ h=>h,λ_ _ ⟨_,_,h⟩=>Bw h⟩
end
