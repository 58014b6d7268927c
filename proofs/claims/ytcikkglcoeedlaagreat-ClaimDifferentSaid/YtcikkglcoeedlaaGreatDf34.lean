/- Part 34. No condition. -/
import Derived.Deep.Slices
import Derived.OpenShut
import Derived.Test.YtcikkglcoeedlaaGreatDf17
set_option linter.unusedSimpArgs false
set_option linter.unusedVariables false
set_option maxRecDepth 100000
namespace Go.Proofs.YtcikkglcoeedlaaGreat
variable{v vn:List D}{P:Program}{t U:TypeId}{w:World}
section
open Go.RowKit Go.Deep Go.ChangeShapes Go.WideShapes
def Good(w:World)(f:List Value)(S:List D):Prop:=
 f.length=S.length/\∀s:GS,s.w=w->(∀b k,b<w.heap.size->s.S b k)->∀k,k<S.length->∃u,f[k]? = some u/\u.oneCell'=true/\(DM S k).rel s u
theorem Good.nil(w:World):Good w [] []:=⟨rfl,λ_ _ _ k B=>absurd B (Ybg k)⟩
theorem Good.one{v:Value}{d:D}(q:v.oneCell'=true)(h:∀s:GS,s.w=w->(∀b k,b<w.heap.size->s.S b k)->d.rel s v):Good w [v] [d]:=
 ⟨rfl,λs c p k B=>by
  obtain rfl:k=0:=by simpa using B
  exact⟨v,rfl,q,h s c p⟩⟩
theorem Good.app{a b:List Value}(h:Good w a v)(k:Good w b vn):Good w (a++b) (v++vn):=
 ⟨by rw [Yaa, Yaa, h.1, k.1], fun s c p j W => by
  rw[Yaa]at W;by_cases O:j<v.length
  .obtain ⟨u,q,A,K⟩:=h.2 s c p j O
   refine⟨u,by rw[Yav (by rw[h.1];exact O)];exact q,A,?_⟩;have e:DM (v++vn) j=DM v j:=by simp[DM,Yav O]
   rwa [e]
  .obtain ⟨u, q, A, K⟩:=k.2 s c p (j-v.length) ZbG
   refine⟨u,by rw[Yal (by rw[h.1];omega),h.1];exact q,A,?_⟩;have e:DM (v++vn) j=DM vn (j-v.length):=by simp[DM,Yal (show v.length<=j by omega)]
   rwa [e]⟩
def Opens(P:Program)(t:TypeId)(R:List D->Prop):Prop:=
 ∀(H:Type) (K:TypeId×Value->H) (w:World) (base:Nat) (spare:Nat->Bool) (held:Bool) (b:Nat) (f:List Value) (x:DataW H×List MemPlace),
  DataW.trod K P w base spare held b t f=some x->∃S,R S/\Good w f S
theorem Opens.mono{R i:List D->Prop}(h:Opens P t R)(V:∀S,R S->i S):Opens P t i:=λH K w base spare held b f x C=>
 let⟨S,q,A⟩:=h H K w base spare held b f x C
 ⟨S,V S q,A⟩
theorem Opens.int{κ:IntKind}(ht:P.underlying t=some (.int κ)):Opens P t λS=>∃z,(Lit.int κ z).wf=true/\S=[ex (.int κ z)]:=λH K w base spare held b f x C=>by
 obtain⟨z,rfl,_,c⟩:=DataW.trod_int ht C;exact⟨_,⟨z,c,rfl⟩,Good.one rfl λ_ _ _=>rfl⟩
theorem PX{w:World}{c:Nat}{R:List D->Prop}:∀(n:Nat) (f:List Value),f.length=n*c->(∀i,i<n->∃S,R S/\Good w ((f.drop (i*c)).take c) S)->∃C:List (List D),C.length=n/\(∀r∈C,R r)/\Good w f C.flatten
 | 0, f, I, _ => ⟨[], rfl, fun r V => (by cases V), by
   rw[YcD]at I;rw[YaF I];exact Good.nil w⟩
 |n+1,f,I,h=>by
  obtain⟨E,q,A⟩:=h 0 ZbG;rw[YcD,YaP]at A
  obtain ⟨C, K, Y, B⟩ := PX (w := w) (c := c) (R := R) n (f.drop c) (by rw [YbS, I, YcZ]; omega) fun i J => by
   have:=h (i+1) ZbG;rwa [YcZ,Yda,<-Ydj]at this
  refine⟨E::C,by rw[Yay,K],λr V=>?_,?_⟩
  .rcases YaM.1 V with rfl | V
   .exact q
   .exact Y r V
  .rw [List.flatten_cons,<-Ycc c f]
   exact A.app B
theorem PD{n c:Nat}{R:List D->Prop}(L:P.underlying t=some (.array n U))(F:P.cellsOf U=c)(B:P.cellsOf t=n*c)(a:Opens P U R):Opens P t λS=>∃E:List (List D),E.length=n/\(∀r∈E,R r)/\S=E.flatten:=λH M w base spare held b f x C=>by
 obtain⟨G,m,_,_,I,N,k⟩:=DataW.trod_array L C;rw[B]at I
 obtain⟨E,q,A,K⟩:=PX (R:=R) n f I λi J=>by
  have h:=k i J;rw[F,Yac ZbG]at h;exact a H M w base spare held m _ _ h
 exact⟨_,⟨E,q,A,rfl⟩,K⟩
def FieldsO(P:Program):Nat->List Field->List (List D->Prop)->Nat->Prop
 |off,[],[],n=>off=n
 |off,f::t,R::h,n=>f.offset=off/\Opens P f.type R/\FieldsO P (off+P.cellsOf f.type) t h n
 |_,_,_,_=>False
theorem FieldsO.nil{off n:Nat}(h:off=n):FieldsO P off [] [] n:=h
theorem FieldsO.cons{off n:Nat}{f:Field}{t:List Field}{R:List D->Prop}{Rs:List (List D->Prop)}(h:f.offset=off)(B:Opens P f.type R)(Z:FieldsO P (off+P.cellsOf f.type) t Rs n):FieldsO P off (f::t) (R::Rs) n:=⟨h,B,Z⟩
def Aao:List (List D->Prop)->List (List D)->Prop
 |[],[]=>True
 |R::h,d::l=>R d/\Aao h l
 |_,_=>False
theorem PW{P:Program}{w:World}{H:Type}{enc:TypeId×Value->H}{base:Nat}{spare:Nat->Bool}{held:Bool}{m n:Nat}{B:List Value}(I:B.length=n):∀{t:List Field} {M:List (List D->Prop)} {off:Nat},FieldsO P off t M n->off<=n->(∀f∈t,∃x,DataW.trod enc P w base spare held m f.type ((B.drop f.offset).take (P.cellsOf f.type))=some x)->∃l,Aao M l/\Good w (B.drop off) l.flatten
 |[],[],off,h,_,_=>⟨[],trivial,by
   have h:off=n:=h;rw[YaL ZbG];exact Good.nil w⟩
 |[],_::_,_,h,_,_=>h.elim
 |_::_,[],_,h,_,_=>h.elim
 |f::t,R::M,off,h,E,C=>by
  obtain⟨q,A,K⟩:=h;obtain⟨x,Y⟩:=C f ZbV;obtain⟨d,W,z⟩:=A H enc w base spare held m _ x Y
  have F:off+P.cellsOf f.type<=n:=by
   clear C Y W z A
   induction t generalizing off M f with
   |nil=>cases M with
    |nil=>have K:_=n:=K;omega
    |cons=>exact K.elim
   |cons g t v=>cases M with
    |nil=>exact K.elim
    |cons i p=>
     obtain⟨b,y,G⟩:=K;by_cases k:off+P.cellsOf f.type<=n
     .exact k
     .exfalso
      have key:∀(t:List Field) (M:List (List D->Prop)) (o:Nat),FieldsO P o t M n->o<=n:=by
       intro t
       induction t with
       |nil=>intro M o h;cases M with
        |nil=>exact Nat.le_of_eq h
        |cons=>exact h.elim
       |cons f t v=>intro M o h;cases M with
        |nil=>exact h.elim
        |cons R M=>have:=v M _ h.2.2;omega
      have:=key _ _ _ G;omega
  obtain⟨l,L,J⟩:=PW I K F λg T=>C g (by simp[T]);refine⟨d::l,⟨W,L⟩,?_⟩;rw[List.flatten_cons];rw[q]at z;have:=z.app J;rwa [<-Ydj,Ycc]at this
theorem Opens.struct{F:Array Field}{Rs:List (List D->Prop)}(L:P.underlying t=some (.struct F))(h:FieldsO P 0 F.toList Rs (P.cellsOf t)):Opens P t λS=>∃l,Aao Rs l/\S=l.flatten:=λH K w base spare held b B x C=>by
 obtain⟨E,m,_,_,I,R,p⟩:=DataW.trod_struct L C
 obtain⟨l,q,A⟩:=PW (P:=P) (w:=w) (enc:=K) (base:=base) (spare:=spare) (held:=held) (m:=m) I h (Yaw _) λf g=>by
  obtain⟨i,J⟩:=List.mem_iff_getElem?.1 g;rw[Ycr]at J;have q:=p i f J;have O:=(Ybz.1 J).1;rw[Yac ZbG]at q;exact⟨_,q⟩
 exact⟨_,⟨l,q,rfl⟩,by rwa [YaP]at A⟩
theorem Opens.slice{t e:TypeId}{c:Nat}{R:List D->Prop}(L:P.underlying t=some (.slice e))(F:P.cellsOf e=c)(xd:0<c)(E:Opens P e R)(Z:∀S,R S->S.length=c):Opens P t λS=>∃T X,(∀r∈X,R r)/\S=[slD T c X]:=λH xb w base spare held xf G x C=>by
 rcases open_slice L C with⟨rfl,_⟩ | ⟨a,len,cap,m,n,Dx,Pl,rfl,hb,hlc,hcap,hm,_,hel⟩
 .exact ⟨_,⟨0,[],λr V=>(by cases V),rfl⟩,Good.one rfl λs _ _=>slD.nil _ _ s⟩
 .have xj:len<=m:=by rw [hm];split<;>omega
  have xk:cap<=9223372036854775807:=by simpa[maxLen]using hcap
  obtain⟨b,off,xi⟩:=a
  have xg:∀i,i<len->∃S xa,R S/\w.cells? base ((⟨b,off,xi⟩:Addr).add (i*c)) c=some xa/\Good w xa S:=λi J=>by
   obtain⟨xa,q,A⟩:=hel i ZbG;rw[F]at q;obtain⟨S,K,Y⟩:=E H xb w base spare held n xa _ A;exact⟨S,xa,K,q,Y⟩
  obtain⟨f,p⟩:=choose_lt xg;obtain⟨g,N⟩:=choose_lt (p:=λi xa=>R (f i)/\w.cells? base ((⟨b,off,xi⟩:Addr).add (i*c)) c=some xa/\Good w xa (f i)) p;by_cases d:len=0
  .subst d
   exact⟨_,⟨0,[],λr V=>(by cases V),rfl⟩,Good.one rfl λs _ _=>⟨_,cap,rfl,by simp,xk,λh=>absurd h ZbV⟩⟩
  .have xl:xi=none:=by
    obtain⟨q,A,K⟩:=N 0 ZbG;obtain⟨_,I,Y⟩:=World.cells?_some A;have M:=Y 0 xd;rw[Yac ZbG,Deep.add_add,YcD,Ybi]at M;have Q:w.cell? ⟨b,off,xi⟩=_:=M;simpa using World.cell?_spot Q
   subst xl
   have U:∀i,i<len->∀j,j<c->∃u,(g i)[j]? = some u/\w.cell? ⟨b,off+i*c+j,none⟩=some u:=λi J j W=>by
    obtain⟨q,A,K⟩:=N i J;obtain⟨_,I,Y⟩:=World.cells?_some A;have M:=Y j ZbG;have O:j<(g i).length:=by omega
    refine⟨(g i)[j],Yac O,?_⟩;rw[Yac O,Deep.add_add]at M;rw[<-M];congr 1;unfold Addr.add;by_cases d:i*c+j=0
    .rw [Yan d]
     show(⟨b,off+i*c+j,none⟩:Addr)=⟨b,off,none⟩;rw[YbT,d,Ybi]
    .rw [Yai d]
     show(⟨b,off+i*c+j,none⟩:Addr)=⟨b,off+(i*c+j),none⟩;rw[YbT]
   obtain⟨u0,_,xc⟩:=U 0 ZbG 0 xd
   obtain⟨cells,T,fz,xe⟩:∃cells T fz,w.heap[b]? = some (.cells cells T fz):=by
    unfold World.cell? at xc;split at xc
    .rename_i l T0 f0 xh
     exact⟨_,_,_,xh⟩
    .cases xc
   refine⟨[slD T c ((List.range len).map f)],⟨T,_,λr V=>?_,rfl⟩,Good.one rfl λs o y=>?_⟩
   .obtain ⟨i,J,rfl⟩:=YaA.1 V
    exact(N i (by simpa using J)).1
   .refine ⟨_, cap, by simp, by simpa using hlc, xk, λ_=>⟨b, off, rfl, λk B=>?_⟩⟩
    have B:k<len:=by simpa using B
    have e:((List.range len).map f).getD k []=f k:=by simp[Yab,B]
    rw[e];obtain⟨q,A,K⟩:=N k B;refine⟨Z _ q,cells,fz,by rw[o];exact xe,λj W=>⟨y _ _ (Bw xe),?_⟩⟩;obtain⟨u,Y,M,Q⟩:=K.2 s o y j W;obtain⟨u',v,z⟩:=U k B j (by rw[<-Z _ q];exact W);rw[Y]at v;cases v;refine⟨u,?_,M,Q⟩;have h9:=Db (o:=off+k*c+j) xe;rw[z]at h9;exact h9.symm
theorem Good.agg{f:Array Value}(h:Good w f.toList v){s:GS}(c:s.w=w)(p:∀b k,b<w.heap.size->s.S b k):(AQ v).rel s (.agg f):=
 ⟨f, rfl, by simpa using h.1, fun k B => by
  obtain⟨u,q,A,K⟩:=h.2 s c p k B;exact⟨u,by simpa using q,A,K⟩⟩
def GS.all(w:World):GS:=⟨λb _=>b<w.heap.size,λ_=>0,w⟩
theorem A43(w:World):(GS.all w).Ok:=⟨λ_ _ h=>h,λ_ _ ⟨_,_,h⟩=>Bw h⟩
end
