/- Part 32. No condition. -/
import Derived.Deep.Slices
import Derived.OpenShut
import Derived.Test.YtcikkglcoeedlaaGreatDm17
set_option linter.all false
set_option maxRecDepth 100000
namespace Go.Proofs.YtcikkglcoeedlaaGreat
variable{v vn:List D}{P:Program}{t U:TypeId}{w:World}
section
open Go.RowKit Go.Deep Go.ChangeShapes Go.WideShapes
def Good(w:World)(f:List Value)(S:List D):Prop:=
 f.length=S.length/\∀s:GS,s.w=w->(∀b k,b<w.heap.size->s.S b k)->∀k,k<S.length->∃u,f[k]? = some u/\u.oneCell'=true/\(Dd S k).rel s u
theorem Good.nil(w:World):Good w [] []:=⟨rfl,λ_ _ _ k B=>absurd B (Ybj k)⟩
theorem Good.one{v:Value}{d:D}(q:v.oneCell'=true)(h:∀s:GS,s.w=w->(∀b k,b<w.heap.size->s.S b k)->d.rel s v):Good w [v] [d]:=
 ⟨rfl,λs c p k B=>by
  obtain rfl:k=0:=by simpa using B
  exact⟨v,rfl,q,h s c p⟩⟩
theorem Good.app{a b:List Value}(h:Good w a v)(k:Good w b vn):Good w (a++b) (v++vn):=
 ⟨by rw [Yac, Yac, h.1, k.1], fun s c p j X => by
  rw[Yac]at X;by_cases O:j<v.length
  .obtain ⟨u,q,A,K⟩:=h.2 s c p j O
   refine⟨u,by rw[Yaw (by rw[h.1];exact O)];exact q,A,?_⟩;have e:Dd (v++vn) j=Dd v j:=by simp[Dd,Yaw O]
   rwa [e]
  .obtain ⟨u, q, A, K⟩:=k.2 s c p (j-v.length) ZbC
   refine⟨u,by rw[Yak (by rw[h.1];omega),h.1];exact q,A,?_⟩;have e:Dd (v++vn) j=Dd vn (j-v.length):=by simp[Dd,Yak (show v.length<=j by omega)]
   rwa [e]⟩
def Opens(P:Program)(t:TypeId)(R:List D->Prop):Prop:=
 ∀(H:Type) (F:TypeId×Value->H) (w:World) (base:Nat) (spare:Nat->Bool) (held:Bool) (q:Nat) (f:List Value) (x:DataW H×List MemPlace),
  DataW.trod F P w base spare held q t f=some x->∃S,R S/\Good w f S
theorem Opens.mono{R c:List D->Prop}(h:Opens P t R)(Y:∀S,R S->c S):Opens P t c:=λH F w base spare held B f x C=>
 let⟨S,q,A⟩:=h H F w base spare held B f x C
 ⟨S,Y S q,A⟩
theorem Opens.int{κ:IntKind}(ht:P.underlying t=some (.int κ)):Opens P t λS=>∃z,(Lit.int κ z).wf=true/\S=[ex (.int κ z)]:=λH F w base spare held q f x C=>by
 obtain⟨z,rfl,_,c⟩:=DataW.trod_int ht C;exact⟨_,⟨z,c,rfl⟩,Good.one rfl λ_ _ _=>rfl⟩
theorem Qr{w:World}{c:Nat}{R:List D->Prop}:∀(n:Nat) (f:List Value),f.length=n*c->(∀i,i<n->∃S,R S/\Good w ((f.drop (i*c)).take c) S)->∃B:List (List D),B.length=n/\(∀r∈B,R r)/\Good w f B.flatten
 | 0, f, I, _ => ⟨[], rfl, fun r Y => (by cases Y), by
   rw[YcH]at I;rw[YaE I];exact Good.nil w⟩
 |n+1,f,I,h=>by
  obtain⟨H,q,A⟩:=h 0 ZbC;rw[YcH,YaW]at A
  obtain ⟨B, K, Q, k⟩ := Qr (w := w) (c := c) (R := R) n (f.drop c) (by rw [Ybx, I, YcP]; omega) fun i J => by
   have:=h (i+1) ZbC;rwa [YcP,Yde,<-Ydp]at this
  refine⟨H::B,by rw[Yat,K],λr Y=>?_,?_⟩
  .rcases YaL.1 Y with rfl | Y
   .exact q
   .exact Q r Y
  .rw [Ydk,<-YbV c f]
   exact A.app k
theorem A4t{n c:Nat}{R:List D->Prop}(L:P.underlying t=some (.array n U))(G:P.cellsOf U=c)(g:P.cellsOf t=n*c)(b:Opens P U R):Opens P t λS=>∃B:List (List D),B.length=n/\(∀r∈B,R r)/\S=B.flatten:=λH F w base spare held N f x C=>by
 obtain⟨j,m,_,_,I,M,E⟩:=DataW.trod_array L C;rw[g]at I
 obtain⟨B,q,A,K⟩:=Qr (R:=R) n f I λi J=>by
  have h:=E i J;rw[G,Yab ZbC]at h;exact b H F w base spare held m _ _ h
 exact⟨_,⟨B,q,A,rfl⟩,K⟩
def FieldsO(P:Program):Nat->List Field->List (List D->Prop)->Nat->Prop
 |off,[],[],n=>off=n
 |off,f::t,R::l,n=>f.offset=off/\Opens P f.type R/\FieldsO P (off+P.cellsOf f.type) t l n
 |_,_,_,_=>False
theorem FieldsO.nil{off n:Nat}(h:off=n):FieldsO P off [] [] n:=h
theorem FieldsO.cons{off n:Nat}{f:Field}{t:List Field}{R:List D->Prop}{Rs:List (List D->Prop)}(h:f.offset=off)(E:Opens P f.type R)(a:FieldsO P (off+P.cellsOf f.type) t Rs n):FieldsO P off (f::t) (R::Rs) n:=⟨h,E,a⟩
def Abn:List (List D->Prop)->List (List D)->Prop
 |[],[]=>True
 |R::q,d::l=>R d/\Abn q l
 |_,_=>False
theorem Qq{P:Program}{w:World}{H:Type}{enc:TypeId×Value->H}{base:Nat}{spare:Nat->Bool}{held:Bool}{m n:Nat}{B:List Value}(I:B.length=n):∀{t:List Field} {N:List (List D->Prop)} {off:Nat},FieldsO P off t N n->off<=n->(∀f∈t,∃x,DataW.trod enc P w base spare held m f.type ((B.drop f.offset).take (P.cellsOf f.type))=some x)->∃l,Abn N l/\Good w (B.drop off) l.flatten
 |[],[],off,h,_,_=>⟨[],trivial,by
   have h:off=n:=h;rw[YaN ZbC];exact Good.nil w⟩
 |[],_::_,_,h,_,_=>h.elim
 |_::_,[],_,h,_,_=>h.elim
 |f::t,R::N,off,h,s,C=>by
  obtain⟨q,A,K⟩:=h;obtain⟨x,V⟩:=C f ZbR;obtain⟨d,O,Q⟩:=A H enc w base spare held m _ x V
  have G:off+P.cellsOf f.type<=n:=by
   clear C V O Q A
   induction t generalizing off N f with
   |nil=>cases N with
    |nil=>have K:_=n:=K;omega
    |cons=>exact K.elim
   |cons g t u=>cases N with
    |nil=>exact K.elim
    |cons c U=>
     obtain⟨W,E,J⟩:=K;by_cases i:off+P.cellsOf f.type<=n
     .exact i
     .exfalso
      have key:∀(t:List Field) (N:List (List D->Prop)) (o:Nat),FieldsO P o t N n->o<=n:=by
       intro t
       induction t with
       |nil=>intro N o h;cases N with
        |nil=>exact Nat.le_of_eq h
        |cons=>exact h.elim
       |cons f t u=>intro N o h;cases N with
        |nil=>exact h.elim
        |cons R N=>have:=u N _ h.2.2;omega
      have:=key _ _ _ J;omega
  obtain⟨l,M,L⟩:=Qq I K G λg F=>C g (by simp[F]);refine⟨d::l,⟨O,M⟩,?_⟩;rw[Ydk];rw[q]at Q;have:=Q.app L;rwa [<-Ydp,YbV]at this
theorem Opens.struct{E:Array Field}{Rs:List (List D->Prop)}(L:P.underlying t=some (.struct E))(h:FieldsO P 0 E.toList Rs (P.cellsOf t)):Opens P t λS=>∃l,Abn Rs l/\S=l.flatten:=λH F w base spare held G B x C=>by
 obtain⟨j,m,_,_,I,r,p⟩:=DataW.trod_struct L C
 obtain⟨l,q,A⟩:=Qq (P:=P) (w:=w) (enc:=F) (base:=base) (spare:=spare) (held:=held) (m:=m) I h (Yay _) λf u=>by
  obtain⟨i,J⟩:=List.mem_iff_getElem?.1 u;rw[Ycx]at J;have q:=p i f J;have O:=(YbA.1 J).1;rw[Yab ZbC]at q;exact⟨_,q⟩
 exact⟨_,⟨l,q,rfl⟩,by rwa [YaW]at A⟩
theorem Opens.slice{t e:TypeId}{c:Nat}{R:List D->Prop}(L:P.underlying t=some (.slice e))(G:P.cellsOf e=c)(xe:0<c)(E:Opens P e R)(d:∀S,R S->S.length=c):Opens P t λS=>∃T Z,(∀r∈Z,R r)/\S=[slD T c Z]:=λH xc w base spare held xg M x C=>by
 rcases open_slice L C with⟨rfl,_⟩ | ⟨a,len,cap,m,n,Dx,Pl,rfl,hb,hlc,hcap,hm,_,hel⟩
 .exact ⟨_,⟨0,[],λr Y=>(by cases Y),rfl⟩,Good.one rfl λs _ _=>slD.nil _ _ s⟩
 .have xk:len<=m:=by rw [hm];split<;>omega
  have xl:cap<=9223372036854775807:=by simpa[maxLen]using hcap
  obtain⟨b,off,xj⟩:=a
  have xh:∀i,i<len->∃S xb,R S/\w.cells? base ((⟨b,off,xj⟩:Addr).add (i*c)) c=some xb/\Good w xb S:=λi J=>by
   obtain⟨xb,q,A⟩:=hel i ZbC;rw[G]at q;obtain⟨S,K,Q⟩:=E H xc w base spare held n xb _ A;exact⟨S,xb,K,q,Q⟩
  obtain⟨f,p⟩:=choose_lt xh;obtain⟨g,V⟩:=choose_lt (p:=λi xb=>R (f i)/\w.cells? base ((⟨b,off,xj⟩:Addr).add (i*c)) c=some xb/\Good w xb (f i)) p;by_cases F:len=0
  .subst F
   exact⟨_,⟨0,[],λr Y=>(by cases Y),rfl⟩,Good.one rfl λs _ _=>⟨_,cap,rfl,by simp,xl,λh=>absurd h ZbR⟩⟩
  .have xm:xj=none:=by
    obtain⟨q,A,K⟩:=V 0 ZbC;obtain⟨_,I,Q⟩:=World.cells?_some A;have N:=Q 0 xe;rw[Yab ZbC,Deep.add_add,YcH,Ybf]at N;have W:w.cell? ⟨b,off,xj⟩=_:=N;simpa using World.cell?_spot W
   subst xm
   have xa:∀i,i<len->∀j,j<c->∃u,(g i)[j]? = some u/\w.cell? ⟨b,off+i*c+j,none⟩=some u:=λi J j X=>by
    obtain⟨q,A,K⟩:=V i J;obtain⟨_,I,Q⟩:=World.cells?_some A;have N:=Q j ZbC;have O:j<(g i).length:=by omega
    refine⟨(g i)[j],Yab O,?_⟩;rw[Yab O,Deep.add_add]at N;rw[<-N];congr 1;unfold Addr.add;by_cases F:i*c+j=0
    .rw [Yao F]
     show(⟨b,off+i*c+j,none⟩:Addr)=⟨b,off,none⟩;rw[YbR,F,Ybf]
    .rw [Yaj F]
     show(⟨b,off+i*c+j,none⟩:Addr)=⟨b,off+(i*c+j),none⟩;rw[YbR]
   obtain⟨u0,_,xd⟩:=xa 0 ZbC 0 xe
   obtain⟨cells,T,U,xf⟩:∃cells T U,w.heap[b]? = some (.cells cells T U):=by
    unfold World.cell? at xd;split at xd
    .rename_i l T0 f0 xi
     exact⟨_,_,_,xi⟩
    .cases xd
   refine⟨[slD T c ((List.range len).map f)],⟨T,_,λr Y=>?_,rfl⟩,Good.one rfl λs o y=>?_⟩
   .obtain ⟨i,J,rfl⟩:=YaD.1 Y
    exact(V i (by simpa using J)).1
   .refine ⟨_, cap, by simp, by simpa using hlc, xl, λ_=>⟨b, off, rfl, λk B=>?_⟩⟩
    have B:k<len:=by simpa using B
    have e:((List.range len).map f).getD k []=f k:=by simp[Yaa,B]
    rw[e];obtain⟨q,A,K⟩:=V k B;refine⟨d _ q,cells,U,by rw[o];exact xf,λj X=>⟨y _ _ (Bv xf),?_⟩⟩;obtain⟨u,Q,N,W⟩:=K.2 s o y j X;obtain⟨u',v,z⟩:=xa k B j (by rw[<-d _ q];exact X);rw[Q]at v;cases v;refine⟨u,?_,N,W⟩;have h9:=CU (o:=off+k*c+j) xf;rw[z]at h9;exact h9.symm
theorem Good.agg{f:Array Value}(h:Good w f.toList v){s:GS}(c:s.w=w)(p:∀b k,b<w.heap.size->s.S b k):(AP v).rel s (.agg f):=
 ⟨f, rfl, by simpa using h.1, fun k B => by
  obtain⟨u,q,A,K⟩:=h.2 s c p k B;exact⟨u,by simpa using q,A,K⟩⟩
def GS.all(w:World):GS:=⟨λb _=>b<w.heap.size,λ_=>0,w⟩
theorem A4w(w:World):(GS.all w).Ok:=⟨λ_ _ h=>h,λ_ _ ⟨_,_,h⟩=>Bv h⟩
end
