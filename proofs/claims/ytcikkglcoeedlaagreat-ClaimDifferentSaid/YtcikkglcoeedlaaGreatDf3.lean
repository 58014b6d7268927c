/- Part 3. No condition. -/
import Derived.Deep.Upon
import Derived.Test.YtcikkglcoeedlaaGreatDf2
set_option linter.unusedSimpArgs false
set_option linter.unusedVariables false
set_option maxRecDepth 100000
namespace Go.Proofs.YtcikkglcoeedlaaGreat
variable{vf:AS}{uw:AS->Prop}{f:AV}{vZ:Array Oper}{vE:Array Value}{o:Bool}{vp uc:Code}{r vx up:D}{vO:Func}{s:GS}{vm ud:List (List D)}{uv:List (Nat×List D)}{vw:List (Nat×Nat)}{ue:List (Nat×Operand)}{R uu:List AV}{v vn:List D}{l:List Nat}{H:List Ow}{b k vk:Nat}{uY:Nat->AS->Prop}{vi:Nat->Value}{va:Oper}{x y vS:Operand}{vz:Operand->AV}{vB:Option Tmp}{vt:Ow}{P:Program}{uH uX:ResultVar}{t U:TypeId}{z u:Value}{w:World}
section
open Go.RowKit
def GG(s0:An)(n:Nat)(Q:Exit->AS->Prop):Exit->Act->World->Prop:=λe a w=>∃c,Q e c/\St s0 n c a w
structure AWp(P:Program)(s0:An)(n:Nat)(c:Code)(Q:Exit->AS->Prop)(σ:AS):Prop where
 run:∀a w,St s0 n σ a w->c.wp P (GG s0 n Q) a w
structure AWl(P:Program)(s0:An)(n:Nat)(ops:Array Oper)(Q:Exit->AS->Prop)(l:List Oper)(σ:AS):Prop where
 run:∀a w,St s0 n σ a w->wpList P ops (GG s0 n Q) l a w
def Aaw(next:AS->Prop)(Q:Exit->AS->Prop):Exit->AS->Prop
 |.normal,c=>next c
 |e,c=>Q e c
structure AThen(next:AS->Prop)(Q:Exit->AS->Prop)(e:Exit)(σ:AS):Prop where
 run:Aaw next Q e σ
def A8A(id:Nat)(Q:Exit->AS->Prop):Exit->AS->Prop
 |.exit j,c=>if j=id then Q .normal c else Q (.exit j) c
 |e,c=>Q e c
structure ABlock(id:Nat)(Q:Exit->AS->Prop)(e:Exit)(σ:AS):Prop where
 run:A8A id Q e σ
section
variable {P:Program} {s0:An} {n:Nat} {Q:Exit->AS->Prop} {σ:AS}
theorem Ah{x y:Code}(h:AWp P s0 n x (AThen (AWp P s0 n y Q) Q) σ):AWp P s0 n (.seq x y) Q σ:=⟨λa w Z=>wp_seq (wp_mono (h.run a w Z) λe B M ⟨C,⟨q⟩,A⟩=>by
 cases e with
 |normal=>exact AWp.run q B M A
 |_=>exact⟨C,q,A⟩)⟩
theorem AWp.block{id:Nat}{c:Code}(h:AWp P s0 n c (ABlock id Q) σ):AWp P s0 n (.block id c) Q σ:=⟨λa w Z=>wp_block (wp_mono (h.run a w Z) λe B M ⟨C,⟨q⟩,A⟩=>by
 cases e with
 |exit j=>
  show if j=id then GG s0 n Q .normal B M else GG s0 n Q (.exit j) B M
  have q:if j=id then Q .normal C else Q (.exit j) C:=q
  split
  .rename_i W;rw[Yan W]at q;exact⟨C,q,A⟩
  .rename_i W;rw[Yai W]at q;exact⟨C,q,A⟩
 |_=>exact⟨C,q,A⟩)⟩
theorem GX(h:Q .normal σ):AWp P s0 n .skip Q σ:=⟨λ_ _ Z=>wp_skip ⟨σ,h,Z⟩⟩
theorem Cg{id:Nat}(h:Q (.exit id) σ):AWp P s0 n (.exit id) Q σ:=⟨λ_ _ Z=>wp_exit ⟨σ,h,Z⟩⟩
theorem BV(h:Q .ret σ):AWp P s0 n .ret Q σ:=⟨λ_ _ Z=>wp_ret ⟨σ,h,Z⟩⟩
theorem St.exD(C:σ.arg x=.d (ex z)){a:Act}(Z:St s0 n σ a w):a.eval x=z:=by
 obtain⟨s,X,rfl,h⟩:=Z;have:=h.arg x;exact Zjc
theorem PK(F:σ.arg x=.d (ex (.bool true)))(h:AWp P s0 n vp Q σ):AWp P s0 n (.cond x vp uc) Q σ:=⟨λa w Z=>wp_cond_true (Z.exD F) (h.run a w Z)⟩
theorem PL(F:σ.arg x=.d (ex (.bool false)))(h:AWp P s0 n uc Q σ):AWp P s0 n (.cond x vp uc) Q σ:=⟨λa w Z=>wp_cond_false (Z.exD F) (h.run a w Z)⟩
theorem Js(F:σ.arg x=.d (ex (.bool o)))(L:o=true)(h:AWp P s0 n vp Q σ):AWp P s0 n (.cond x vp uc) Q σ:=PK (by rw[F,L]) h
theorem HN(F:σ.arg x=.d (ex (.bool o)))(L:o=false)(h:AWp P s0 n uc Q σ):AWp P s0 n (.cond x vp uc) Q σ:=PL (by rw[F,L]) h
theorem FI(F:σ.arg x=.d (ex (.bool o)))(L:o=true->AWp P s0 n vp Q σ)(p:o=false->AWp P s0 n uc Q σ):AWp P s0 n (.cond x vp uc) Q σ:=by
 cases o with
 |true=>exact PK F (L rfl)
 |false=>exact PL F (p rfl)
def AS.le(x y:AS):Prop:=∀s0 n a w,St s0 n x a w->St s0 n y a w
theorem DV{c:Code}{σ':AS}(I:AS.le σ σ')(h:AWp P s0 n c Q σ'):AWp P s0 n c Q σ:=⟨λa w Z=>h.run a w (I _ _ _ _ Z)⟩
theorem Bk{l:List Oper}{σ':AS}(I:AS.le σ σ')(h:AWl P s0 n vZ Q l σ'):AWl P s0 n vZ Q l σ:=⟨λa w Z=>h.run a w (I _ _ _ _ Z)⟩
def Aax(I:Nat->AS->Prop)(m:Nat)(Q:Exit->AS->Prop):Exit->AS->Prop
 |.normal,σ=>∃q,q<m/\∃A,I q A/\AS.le σ A
 |e,σ=>Q e σ
structure ALoop(I:Nat->AS->Prop)(m:Nat)(Q:Exit->AS->Prop)(e:Exit)(σ:AS):Prop where
 run:Aax I m Q e σ
theorem AF{c:Code}(I:Nat->AS->Prop){m:Nat}{σ':AS}(q:AS.le σ σ')(d:I m σ')(round:∀m σ,I m σ->AWp P s0 n c (ALoop I m Q) σ):AWp P s0 n (.loop c) Q σ:=by
 refine⟨λa w Z b k f=>?_⟩
 have key:∀(m:Nat) (a:Act) (w:World) (σ:AS),I m σ->St s0 n σ a w->∃e C M,GG s0 n Q e C M/\Arrives P (lone (b.at a (.code c::.inLoop c::k)) f w) b k f e C M:=by
  intro m
  induction m using Nat.strongRecOn with
  |_ m v=>
   intro a w σ W B;obtain⟨e,K,g,⟨j,⟨A⟩,p⟩,r⟩:=(round m σ W).run a w B b (.inLoop c::k) f
   cases e with
   |normal=>
    obtain⟨G,O,t,x,E⟩:=A;obtain⟨y,Y,F,J,L⟩:=v G O K g t x (E _ _ _ _ p);exact⟨y,Y,F,J,.of_steps (Steps.trans r (.one step_inLoop)) L⟩
   |exit id=>exact ZjF
   |goto l=>exact ZjF
   |ret=>exact ZjF
   |panic R=>exact ZjF
   |outgrown=>exact ZjF
 obtain⟨e,C,M,A,r⟩:=key m a w σ' d (q _ _ _ _ Z);exact⟨e,C,M,A,.of_steps (.one step_loop) r⟩
end
def Wh(s:Option Tmp)(n:Nat):Bool:=match s with | some d=>Nat.blt d n | none=>true
theorem Jz{n:Nat}(h:Wh vB n=true):∀d,vB=some d->d<n:=λd e=>by subst e;exact by simpa[Wh,Ybh]using h
section
variable {P:Program} {s0:An} {n:Nat} {ops:Array Oper} {Q:Exit->AS->Prop} {rest:List Oper} {o:Oper} {σ:AS}
theorem AWp.region{id:Nat}{l:List Oper}(h:AWl P s0 n l.toArray Q l σ):AWp P s0 n (.region id l.toArray false) Q σ:=⟨λa w Z=>wp_region_lit (h.run a w Z)⟩
theorem AWl.nil(h:Q .normal σ):AWl P s0 n ops Q [] σ:=⟨λ_ _ Z=>⟨σ,h,Z⟩⟩
theorem AWl.step(T:o.guard=none)(h:∀(s:GS) (X:Nat->Value) (a:Act),StI s0 n σ a s X->∀K:Act->World->Prop,(∀F C M,AWl P s0 n ops Q rest F->St s0 n F C M->K C M)->o.wp P a s.w K (GG s0 n Q)):AWl P s0 n ops Q (o::rest) σ:=by
 refine⟨λa w ⟨s,X,c,B⟩=>?_⟩;subst c;exact wpList_plain T λK E=>h s X a B K λF C M q A=>E C M (q.run C M A)
theorem ZE{j:Nat}{q:Bool}(T:o.guard=some (j,q))(N:(ops[j]?).bind (·.dst)=some b)(I:Ch σ.fr b=some (.d (ex (.bool q))))(h:∀(s:GS) (X:Nat->Value) (a:Act),StI s0 n σ a s X->∀K:Act->World->Prop,(∀J F M,AWl P s0 n ops Q rest J->St s0 n J F M->K F M)->o.wp P a s.w K (GG s0 n Q))(e:b<n):AWl P s0 n ops Q (o::rest) σ:=by
 refine⟨λa w ⟨s,X,c,E⟩=>?_⟩;subst c;refine wpList_step λK G=>?_;have C:a.tmps.getD b undef=.bool q:=E.fr b _ I;have l:b<a.tmps.size:=by rw[E.sz];exact e
 have y:a.tmps[b]? = some (.bool q):=by
  rw[YaH,YaJ l]at C;rw[YaJ l];exact congrArg some C
 rw[Yan (by simp[Region.wanted,T,yielded,N,y])];exact h s X a E K λJ F M A B=>G F M (A.run F M B)
def isB:Value->Bool->Bool
 |.bool c,b=>c==b
 |_,_=>false
theorem A5G{b:Bool}(h:isB z b=false):z≠.bool b:=λe=>by
 rw[e]at h;simp[isB]at h
theorem A4h{j:Nat}{q:Bool}(T:o.guard=some (j,q))(N:(ops[j]?).bind (·.dst)=some b)(I:Ch σ.fr b=some (.d (ex z)))(G:isB z q=false)(B:b<n)(l:Wh o.dst n=true)(h:AWl P s0 n ops Q rest (σ.put o.dst (.d (ex undef)))):AWl P s0 n ops Q (o::rest) σ:=by
 refine⟨λa w ⟨s,X,E,C⟩=>?_⟩;subst E;refine wpList_step λK J=>?_;have A:a.tmps.getD b undef=z:=C.fr b _ I;have u:b<a.tmps.size:=by rw[C.sz];exact B
 have y:a.tmps[b]? = some z:=by
  rw[YaH,YaJ u]at A;rw[YaJ u];exact congrArg some A
 have L:z≠.bool q:=A5G G
 rw[Yai (by
  simp only[Region.wanted,T,yielded,N,Option.bind_some,y,Ycw];split
  .rename_i c F
   cases F;exact λe=>L (by rw[Yag e])
  .simp)]
 exact J _ _ (h.run _ _ ⟨s,X,rfl,C.put (GS.Le.refl s) (Jz l) rfl⟩)
theorem RK(Z:BO o.op=true)(e:Wh o.dst n=true)(k:Quiet P σ.hp o σ.arg f)(h:AWl P s0 n ops Q rest (σ.put o.dst f)):∀(s:GS) (X:Nat->Value) (a:Act),StI s0 n σ a s X->∀K:Act->World->Prop,(∀C A M,AWl P s0 n ops Q rest C->St s0 n C A M->K A M)->o.wp P a s.w K (GG s0 n Q):=
 λs X a q K B=>RegG.opStep_wp Z (λ_ _=>rfl) (k.run 0 s X a.eval q.ok (Yaw _) q.hp λx _=>q.arg x) λv j ⟨I,V⟩=>B _ _ _ h ⟨j,X,rfl,q.put I (Jz e) V⟩
theorem A4i(T:o.guard=none)(Z:BO o.op=true)(e:Wh o.dst n=true)(k:Quiet P σ.hp o σ.arg f)(h:AWl P s0 n ops Q rest (σ.put o.dst f)):AWl P s0 n ops Q (o::rest) σ:=AWl.step T (RK Z e k h)
theorem A1G{j:Nat}{q:Bool}(T:o.guard=some (j,q))(N:(ops[j]?).bind (·.dst)=some b)(I:Ch σ.fr b=some (.d (ex (.bool q))))(X:b<n)(Z:BO o.op=true)(e:Wh o.dst n=true)(k:Quiet P σ.hp o σ.arg f)(h:AWl P s0 n ops Q rest (σ.put o.dst f)):AWl P s0 n ops Q (o::rest) σ:=ZE T N I (RK Z e k h) X
end
section
variable {s0:An} {n:Nat} {σ:AS} {a:Act} {s:GS} {ρ:Nat->Value}
theorem Cs{i:Nat}{o:Ow}(h:H[i]? = some o):i<H.length:=(Yae.1 h).1
theorem OwR.mono{base m Q i:Nat}(h:OwR base m ρ s i vt)(x:m<=Q)(N:∀j,j<m->vi j=ρ j)(J:i<m):OwR base Q vi s i vt:=by
 cases vt with
 |dead=>trivial
 |var T cells=>
  obtain⟨b,f,q,A,K,Y,C,F,M⟩:=h;refine⟨b,f,(N i J).trans q,A,K,Y,C,F,λk L B=>?_⟩;obtain⟨u,y,W,X⟩:=M k L B;exact⟨u,y,W,X.mono x N⟩
 |row T E I=>
  unfold OwR;rw[N i J];exact h
 |obj O=>
  unfold OwR;rw[N i J];exact h
 |pin l=>exact λp G=>(h p G).mono x N
theorem OwR.keep{base m i:Nat}{I:GS}(h:OwR base m ρ s i vt)(F:GS.Chg s I)(E:∀b,OwB s (ρ i) vt b->I.w.heap[b]? = s.w.heap[b]? /\ ∀k,I.S b k↔s.S b k):OwR base m ρ I i vt:=by
 cases vt with
 |dead=>trivial
 |var T cells=>
  obtain⟨b,f,q,A,K,Y,J,M,S⟩:=h;obtain⟨C,y⟩:=E b (show DQ (ρ i)=some b by rw[q];rfl);refine⟨b,f,q,A,C.trans K,Y,J,λk B=>M k ((y k).1 B),λk Q B=>?_⟩;obtain⟨u,X,Z,c⟩:=S k Q B;exact⟨u,X,Z,c.chg F⟩
 |row T L N=>
  obtain⟨V,⟨q,A⟩,K,Y,J,M⟩:=h;refine⟨V,⟨q,?_⟩,K,Y,λb d k=>((E b d).2 k).trans (J b d k),λk B=>⟨(M k B).1,λj W=>?_⟩⟩
  .rcases A with A | ⟨g,cap,cur,C,y,e3,e4⟩
   .exact .inl A
   .exact .inr ⟨g,cap,cur,C,y,(E g (show DQ (ρ i)=some g by rw[C];rfl)).1.trans e3,e4⟩
  .obtain ⟨u,X,Z,c⟩:=(M k B).2 j W
   exact⟨u,X,Z,(DM _ j).st c F⟩
 |obj O=>exact(O.keep h F E).1
 |pin l=>exact λp G=>(h p G).chg F
theorem StI.newG(h:StI s0 n σ a s ρ){B:GS}(I:GS.Le s B)(e:∀d,vB=some d->d<n){v u:Value}{r:AV}{ow:Ow}(V:AVr (σ.hp.length+1) (λi=>if i=σ.hp.length then u else ρ i) B r v)
  (m:OwR 0 (σ.hp.length+1) (λi=>if i=σ.hp.length then u else ρ i) B σ.hp.length ow) (E:∀b,OwB B u ow b->∀i o,σ.hp[i]? = some o->¬OwB s (ρ i) o b) (x:∀b,OwB B u ow b->s0.mine b\/s0.g.w.heap.size<=b) :
  StI s0 n { fr:=(σ.put vB r).fr,hp:=σ.hp++[ow] } (a.put vB v) B (λi=>if i=σ.hp.length then u else ρ i):=by
 have Q:∀j,j<σ.hp.length->(if j=σ.hp.length then u else ρ j)=ρ j:=λj W=>Yai ZbG;have N:(σ.hp++[ow]).length=σ.hp.length+1:=by simp
 have key:∀i o,(σ.hp++[ow])[i]? = some o->∀b,OwB B (if i=σ.hp.length then u else ρ i) o b->(i<σ.hp.length/\σ.hp[i]? = some o/\OwB s (ρ i) o b)\/(i=σ.hp.length/\o=ow/\OwB B u ow b):=λi o J b Y=>by
  rw[YaQ]at J;split at J
  .rename_i O
   rw[Yai ZbG]at Y;exact .inl ⟨O,J,OwB.le (h.hp i o J) I Y⟩
  .rename_i X
   have:i=σ.hp.length:=by
    have:=Cs J;simp at this;omega
   subst this;simp at J;subst J;rw[Yan rfl]at Y;exact .inr ⟨rfl,rfl,Y⟩
 refine⟨h.le.trans I,I.ok h.ok,λt M L=>?_,?_,?_,λi o J=>?_,λi j o F S J W b Y Z=>?_,λi o b J Y=>?_⟩
 .show AVr (σ.hp++[ow]).length _ B M _
  rw[N]
  cases vB with
  |none=>exact((h.fr t M L).chg I.chg).mono (Yed _) Q
  |some d=>
   replace L:Ch ((d,r)::σ.fr) t=some M:=L;rw[Da]at L;simp only[Act.put];by_cases P:d=t
   .exact Zaw
   .rw [Yai P]at L
    have:=((h.fr t M L).chg I.chg).mono (Yed _) Q;exact ZhJ
 .unfold Act.put;split<;>simp[h.sz]
 .unfold Act.put;split<;>simp[h.df]
 .show OwR 0 (σ.hp++[ow]).length _ B i o
  rw[N];rw[YaQ]at J;split at J
  .rename_i O
   exact((h.hp i o J).le I).mono (Yed _) Q O
  .rename_i X
   have:i=σ.hp.length:=by
    have:=Cs J;simp at this;omega
   subst this;simp at J;subst J;exact m
 .rcases key i o J b Y with⟨q,A,K⟩ | ⟨q,A,K⟩<;>rcases key j F W b Z with⟨C,G,f⟩ | ⟨C,G,f⟩
  .exact h.sep i j o F S A G b K f
  .exact E b f i o A K
  .exact E b K j F G f
  .omega
 .rcases key i o J b Y with⟨q,A,K⟩ | ⟨q,A,K⟩
  .exact h.own i o b A K
  .exact x b K
theorem StI.new(h:StI s0 n σ a s ρ){j:GS}(I:GS.Le s j){dst:Option Tmp}(e:∀d,dst=some d->d<n){v u:Value}{r:AV}{ow:Ow}(V:AVr (σ.hp.length+1) (λi=>if i=σ.hp.length then u else ρ i) j r v)
  (m:OwR 0 (σ.hp.length+1) (λi=>if i=σ.hp.length then u else ρ i) j σ.hp.length ow) (E:∀b,OwB j u ow b->s.w.heap.size<=b) :
  StI s0 n { fr:=(σ.put dst r).fr,hp:=σ.hp++[ow] } (a.put dst v) j (λi=>if i=σ.hp.length then u else ρ i):=by
 refine h.newG I e V m (λb C i o J q=>?_) λb C=>.inr (Yat h.le.size (E b C));have:=(h.hp i o J).blk_lt0 q;exact absurd (E b C) ZbG
end
section
variable {P:Program} {s0:An} {n:Nat} {ops:Array Oper} {Q:Exit->AS->Prop} {rest:List Oper} {o:Oper} {σ:AS}
theorem Iy(t:TypeId)(v:Value)(w:World):(newVar t v).run P w=.ok ⟨w.heap.size,0,none⟩ (w.alloc (.cells v.cells t)):=rfl
def AS.new(σ:AS)(dst:Option Tmp)(r:AV)(ow:Ow):AS:={ fr:=(σ.put dst r).fr,hp:=σ.hp++[ow] }
def ZL(l:List Value):List AV:=l.map λu=>.d (ex u)
def HO(l:List Value):Bool:=l.all (·.oneCell')
theorem AWl.alloc{T:TypeId}{d:TypeDesc}{m b:Nat}(G:o.op=.alloc T)(F:o.guard=none)(L:Tab P T d m b z)(i:T≠335)(q:HO z.cells.toList=true)(e:Wh o.dst n=true)(h:AWl P s0 n ops Q rest (σ.new o.dst (.ptr σ.hp.length 0) (.var T (ZL z.cells.toList)))):AWl P s0 n ops Q (o::rest) σ:=by
 refine AWl.step F λs X a C K J=>?_
 have M:(execOp a.eval o).run P s.w=.ok (.value (.pointer (some ⟨s.w.heap.size,0,none⟩))) (s.w.alloc (.cells z.cells T)):=by
  simp[execOp,G,Instr.alloc,L.run_zero,Iy]
 unfold Oper.wp;rw[M];refine J _ _ _ h ⟨s.mk' z.cells T 0,_,rfl,C.new (s.le_mk' z.cells T 0 i) (Jz e) (u:=.pointer (some ⟨s.w.heap.size,0,none⟩)) ⟨by omega,s.w.heap.size,by simp,rfl⟩ ?_ λb E=>by cases E;exact Yah _⟩;refine⟨s.w.heap.size,z.cells,by simp,Yaw _,heap_alloc_new s.w _,by simp[ZL],i,λk B=>absurd (C.ok.lt _ _ B) (Ycf _),λk I B=>?_⟩;unfold ZL at B;rw[Yau]at B
 cases A:z.cells.toList[k]? with
 |none=>rw[A]at B;cases B
 |some u=>
  rw[A]at B;cases B;exact⟨u,by simpa using A,Yaj.1 q u (YaB A),rfl⟩
theorem AWl.box(N:o.op=.box t x)(T:o.guard=none)(C:σ.arg x=.d (AQ v))(i:t≠335)(e:Wh o.dst n=true)(h:AWl P s0 n ops Q rest (σ.new o.dst (.ptr σ.hp.length 0) (.var t (v.map .d)))):AWl P s0 n ops Q (o::rest) σ:=by
 refine AWl.step T λs X a L K S=>?_;have q:=L.arg x;rw[C]at q;obtain⟨f,G,A,F⟩:=q
 have W:(execOp a.eval o).run P s.w=.ok (.value (.pointer (some ⟨s.w.heap.size,0,none⟩))) (s.w.alloc (.cells f t)):=by
  simp only[execOp,N,G,Instr.box,Sem.run_bind,Iy,Result.andThen_ok,Sem.run_pure];rfl
 unfold Oper.wp;rw[W];have V:=s.le_mk' f t 0 i;refine S _ _ _ h ⟨s.mk' f t 0,_,rfl,L.new V (Jz e) (u:=.pointer (some ⟨s.w.heap.size,0,none⟩)) ⟨by omega,s.w.heap.size,by simp,rfl⟩ ?_ λb E=>by cases E;exact Yah _⟩;refine⟨s.w.heap.size,f,by simp,Yaw _,heap_alloc_new s.w _,by simp[A],i,λk B=>absurd (L.ok.lt _ _ B) (Ycf _),λk O B=>?_⟩;rw[Yau]at B
 cases J:v[k]? with
 |none=>rw[J]at B;cases B
 |some x=>
  rw[J]at B;cases B;have Z:k<v.length:=(Yae.1 J).1;obtain⟨u,Y,I,M⟩:=F k Z;refine⟨u,Y,I,?_⟩;have:DM v k=x:=by simp[DM,J]
  rw[this]at M;exact x.st M V.chg
theorem A6Z{u:Value}(G:o.op=.box t x)(T:o.guard=none)(C:σ.arg x=.d (ex u))(q:u.oneCell'=true)(i:t≠335)(e:Wh o.dst n=true)(h:AWl P s0 n ops Q rest (σ.new o.dst (.ptr σ.hp.length 0) (.var t [.d (ex u)]))):AWl P s0 n ops Q (o::rest) σ:=by
 refine AWl.step T λs X a F K J=>?_;have A:a.eval x=u:=St.exD C ⟨s,X,rfl,F⟩;have M:u.cells=#[u]:=by cases u<;>first | rfl | cases q
 have L:(execOp a.eval o).run P s.w=.ok (.value (.pointer (some ⟨s.w.heap.size,0,none⟩))) (s.w.alloc (.cells #[u] t)):=by
  simp only[execOp,G,A,Instr.box,Sem.run_bind,Iy,Result.andThen_ok,Sem.run_pure,M]
 unfold Oper.wp;rw[L];refine J _ _ _ h ⟨s.mk' #[u] t 0,_,rfl,F.new (s.le_mk' #[u] t 0 i) (Jz e) (u:=.pointer (some ⟨s.w.heap.size,0,none⟩)) ⟨by omega,s.w.heap.size,by simp,rfl⟩ ?_ λb E=>by cases E;exact Yah _⟩;refine⟨s.w.heap.size,#[u],by simp,Yaw _,heap_alloc_new s.w _,by simp,i,λk B=>absurd (F.ok.lt _ _ B) (Ycf _),λk I B=>?_⟩
 cases k with
 |zero=>cases B;exact⟨u,by simp,q,rfl⟩
 |succ k=>cases B
end
def Ow.mapA(f:AV->AV):Ow->Ow
 |.var T cells=>.var T (cells.map f)
 |.pin l=>.pin (l.map λp=>(p.1,f p.2))
 |o=>o
theorem A6F{f:AV->AV}{b:Nat}:OwB s z (vt.mapA f) b↔OwB s z vt b:=by cases vt<;>exact YdG
theorem Yg(f:AV->AV):∀(l:List (Nat×AV)) (t:Nat),Ch (l.map λp=>(p.1,f p.2)) t=(Ch l t).map f
 |[],t=>rfl
 |p::r,t=>by
  rw[Ybc];obtain⟨a,I⟩:=p;rw[Da,Da,Yg f r t];split<;>rfl
section
variable {s0:An} {n:Nat} {σ:AS} {a:Act} {s:GS} {ρ:Nat->Value}
theorem StI.upd(h:StI s0 n σ a s ρ){s':GS}(xb:GS.LeX s0.mine s0.g s')(m:s'.Ok)(G:GS.Chg s s'){id:Nat}{o o':Ow}{ρ':Nat->Value}{f:AV->AV}(K:σ.hp[id]? = some o)
  (xh:∀b,b<s.w.heap.size->¬OwB s (ρ id) o b->s'.w.heap[b]? = s.w.heap[b]? /\ ∀k,s'.S b k↔s.S b k) (xc:∀j,j≠id->ρ' j=ρ j)
  (xi:OwR 0 σ.hp.length ρ' s' id o') (xm:∀b,OwB s' (ρ' id) o' b->OwB s (ρ id) o b\/s.w.heap.size<=b) (X:∀r v,AVr σ.hp.length ρ s r v->AVr σ.hp.length ρ' s' (f r) v) :
  StI s0 n { fr:=σ.fr.map λp=>(p.1,f p.2),hp:=(σ.hp.map (Ow.mapA f)).set id o' } a s' ρ':=by
 have z:((σ.hp.map (Ow.mapA f)).set id o').length=σ.hp.length:=by simp
 have xe:∀i x,((σ.hp.map (Ow.mapA f)).set id o')[i]? = some x->(i=id/\x=o')\/(i≠id/\∃y,σ.hp[i]? = some y/\x=y.mapA f):=λi x E=>by
  rw[Ycb]at E;split at E
  .rename_i e
   split at E
   .cases E;exact .inl ⟨e.symm,rfl⟩
   .cases E
  .rename_i e
   rw[Yau]at E
   cases N:σ.hp[i]? with
   |none=>rw[N]at E;cases E
   |some y=>rw[N]at E;cases E;exact .inr ⟨λe'=>e e'.symm,y,rfl,rfl⟩
 have xo:∀i y,i≠id->σ.hp[i]? = some y->∀b,OwB s (ρ i) y b->b<s.w.heap.size/\¬OwB s (ρ id) o b:=λi y U N b F=>⟨(h.hp i y N).blk_lt0 F,h.sep i id y o U N K b F⟩;have P:∀i y,i≠id->σ.hp[i]? = some y->∀b,OwB s (ρ i) y b->s'.w.heap[b]? = s.w.heap[b]? /\ ∀k,s'.S b k↔s.S b k:=λi y U N b F=>xh b (xo i y U N b F).1 (xo i y U N b F).2;have xk:∀i y,i≠id->σ.hp[i]? = some y->∀b,OwB s' (ρ' i) (y.mapA f) b->OwB s (ρ i) y b:=λi y U N b F=>OwB.keep (h.hp i y N) G (P i y U N) (by rw[<-xc i U];exact A6F.1 F);refine⟨xb,m,λt r M=>?_,h.sz,h.df,λi x E=>?_,λi j x y xd E N b xj xf=>?_,λi x b E F=>?_⟩
 .show AVr ((σ.hp.map (Ow.mapA f)).set id o').length ρ' s' r _
  rw[z];rw[Yg]at M
  cases J:Ch σ.fr t with
  |none=>rw[J]at M;cases M
  |some xn=>
   rw[J]at M;cases M;exact X _ _ (h.fr t xn J)
 .show OwR 0 ((σ.hp.map (Ow.mapA f)).set id o').length ρ' s' i x
  rw[z];rcases xe i x E with⟨rfl,rfl⟩ | ⟨U,y,N,rfl⟩
  .exact xi
  .have xl:=h.hp i y N
   cases y with
   |dead=>trivial
   |var T cells=>
    obtain⟨b,S,A,B,L,Y,W,d,w⟩:=xl;obtain⟨R,e4⟩:=P i _ U N b (show DQ (ρ i)=some b by rw[A];rfl);refine⟨b,S,(xc i U).trans A,B,R.trans L,by simpa using Y,W,λk C=>d k ((e4 k).1 C),λk r C=>?_⟩;rw[Yau]at C
    cases xg:cells[k]? with
    |none=>rw[xg]at C;cases C
    |some xn=>
     rw[xg]at C;cases C;obtain⟨u,H,h9,xa⟩:=w k xn xg;exact⟨u,H,h9,X _ _ xa⟩
   |row T Z g=>
    have:=xl.keep G (P i _ U N);unfold OwR at this;show OwR 0 σ.hp.length ρ' s' i (.row T Z g);unfold OwR;rw[xc i U];exact this
   |obj O=>
    have:=xl.keep G (P i _ U N);show O.rel s' (ρ' i);rw[xc i U];exact this
   |pin l=>
    intro p I;obtain⟨q,V,rfl⟩:=YaA.1 I;exact X _ _ (xl q V)
 .rcases xe i x E with⟨rfl,rfl⟩ | ⟨U,x0,hx0,rfl⟩<;>rcases xe j y N with⟨rfl,rfl⟩ | ⟨hne',y0,hy0,rfl⟩
  .exact xd rfl
  .obtain ⟨Q,c⟩:=xo j _ hne' hy0 b (xk j _ hne' hy0 b xf)
   rcases xm b xj with A | A
   .exact c A
   .omega
  .obtain ⟨Q,c⟩:=xo i _ U hx0 b (xk i _ U hx0 b xj)
   rcases xm b xf with A | A
   .exact c A
   .omega
  .exact h.sep i j x0 y0 xd hx0 hy0 b (xk i _ U hx0 b xj) (xk j _ hne' hy0 b xf)
 .rcases xe i x E with⟨rfl,rfl⟩ | ⟨U,x0,hx0,rfl⟩
  .rcases xm b F with A | A
   .exact h.own _ o b K A
   .exact .inr (Yat h.le.size A)
  .exact h.own i x0 b hx0 (xk i _ U hx0 b F)
end
theorem Sc(l:List (Nat×AV)):(l.map λp=>(p.1,(λx=>x) p.2))=l:=by simp
theorem LP:∀l:List Ow,l.map (Ow.mapA λx=>x)=l
 |[]=>rfl
 |o::l=>by rw[Ybc,LP l];cases o<;>simp[Ow.mapA]
def One(G:List Ow)(I:AV):Prop:=∀base X s v,HpOk base X s G->AVr G.length X s I v->v.oneCell'=true
theorem CU(h:z.oneCell'=true):One H (.d (ex z)):=λ_ _ _ v _ r=>by have:v=z:=r;rw[this];exact h
theorem CX{T s:Nat}:One H (.d (slD T s vm)):=λ_ _ _ v _ ⟨A,c,r,_⟩=>by rw[r];rfl
theorem One.own{hp:List Ow}{i T sz:Nat}(h:hp[i]? = some (.row T sz vm)):One hp (.own i):=λbase X s v B ⟨_,r⟩=>by
 obtain⟨q,⟨_,A⟩,_⟩:=B i _ h;rcases A with⟨b,_⟩ | ⟨g,cap,cur,b,_⟩
 .rw [r,b];rfl
 .rw [r,b];rfl
theorem A6f{p:Addr}{b:Nat}(h:Ty (w.setCell p z) b t):Ty w b t:=by
 obtain⟨q,Q,h⟩:=h;by_cases E:b=p.block
 .simp only[World.setCell,YdJ,E,if_true]at h
  cases m:w.heap[p.block]? with
  |none=>rw[m]at h;cases h
  |some o=>
   rw[m]at h
   cases o with
   |cells c e f=>
    simp at h;exact⟨c,f,by rw[E,m];rw[h.2.1]⟩
   |_=>simp at h
 .rw [Below.heap_setCell _ _ _ _ E]at h
  exact⟨q,Q,h⟩
theorem MX{s s':GS}(h:s.Ok)(p:∀b k,s'.S b k->s.S b k)(t:s.w.heap.size<=s'.w.heap.size)(u:∀b k,s.S b k->s'.S b k)(L:∀b,Ty s'.w b 335->Ty s.w b 335):s'.Ok:=
 ⟨λb k E=>Yaq (h.lt b k (p b k E)) t,λb k E=>u b k (h.safe b k (L b E))⟩
section
variable {P:Program} {s0:An} {n:Nat} {ops:Array Oper} {Q:Exit->AS->Prop} {rest:List Oper} {o:Oper} {σ:AS}
theorem Ts{d:TypeDesc}{b id off:Nat}(W:o.op=.store t x y)(T:o.guard=none)(xm:o.dst=none)(C:σ.arg x=.ptr id off)(N:σ.arg y=f)(i:σ.hp[id]? = some (.var U R))(L:Tab P t d 1 b z)(q:One σ.hp f)(xn:off<R.length)(h:AWl P s0 n ops Q rest { fr:=σ.fr,hp:=σ.hp.set id (.var U (R.set off f)) }):AWl P s0 n ops Q (o::rest) σ:=by
 refine AWl.step T λs X a O K H=>?_;have xl:=O.arg x;have xj:=O.arg y;rw[C]at xl;rw[N]at xj;obtain⟨xc,g,xo,I⟩:=xl;obtain⟨g',J,A,G,Y,M,S,Z,j⟩:=O.hp id _ i;rw[xo]at A;cases A;have xh:=q _ _ _ _ O.hp xj;have l:s.w.cell? ⟨g,off,none⟩=some (J[off]'(ZbG)):=(Db Y).trans (YaJ _);have xe:s.w.frozen? ⟨g,off,none⟩=false:=Blk.frozen Y off;have xk:(a.eval y).cells=#[a.eval y]:=by cases r:a.eval y<;>first | rfl | (rw[r]at xh;cases xh)
 have xa:(execOp a.eval o).run P s.w=.ok .skip (s.w.setCell ⟨g,off,none⟩ (a.eval y)):=by
  have p:(store ⟨g,off,none⟩ (a.eval y)).run P s.w=.ok () (s.w.setCell ⟨g,off,none⟩ (a.eval y)):=by
   cases r:a.eval y<;>first | (rw[r]at xh;cases xh;done) | simp[store,Sem.run,l,xe]
  simp[execOp,W,I,Instr.storeAt,Instr.sureAddr,storeVar,xk,L.run_size,storeCells,Addr.add_lit,p]
 unfold Oper.wp;rw[xa];have xf:∀b,b≠g->(s.w.setCell ⟨g,off,none⟩ (a.eval y)).heap[b]? = s.w.heap[b]?:=λb E=>Below.heap_setCell _ _ _ _ E;have xg:(s.w.setCell ⟨g,off,none⟩ (a.eval y)).heap[g]? = some (.cells (J.setIfInBounds off (a.eval y)) U (0,0)):=Blk.set Y off _;have V:GS.Ok { s with w:=s.w.setCell ⟨g,off,none⟩ (a.eval y) }:=MX O.ok (λ_ _ h=>h) (by show _<=(s.w.setCell _ _).heap.size;simp[World.setCell]) (λ_ _ h=>h) λb E=>A6f E
 have F : GS.Chg s { s with w := s.w.setCell ⟨g, off, none⟩ (a.eval y) } := ⟨by show _ ≤ (s.w.setCell _ _).heap.size; simp [World.setCell], fun _ _ h => h, fun b c t m E => by
  by_cases e:b=g
  .subst e
   rw[Y]at E;cases E;exact⟨_,_,xg,λk B=>absurd B (Z k)⟩
  .exact ⟨c,m,(xf b e).trans E,λ_ _=>rfl⟩⟩
 have xi := O.upd (s' := { s with w := s.w.setCell ⟨g, off, none⟩ (a.eval y) }) (ρ' := X) (f := fun x => x) (o' := .var U (R.set off f)) (O.le.turn (O.own id _ g i (show DQ (X id) = some g by rw [xo]; rfl)) rfl rfl rfl (fun b _ E => ⟨xf b E, fun _ h => h⟩) F (fun _ _ => rfl) fun _ => V) V F i (fun b _ E => ⟨xf b fun e => E (show DQ (X id) = some b by rw [xo, e]; rfl), fun _ => YdG⟩) (fun _ _ => rfl)
  ⟨g, _, xo, G, xg, by simpa using M, S, Z, fun k xp B => by
   rw[Ycb]at B;split at B
   .rename_i e
    subst e;obtain rfl:xp=f:=by first | exact(Yag B).symm | (rw[Yan xn]at B;exact(Yag B).symm)
    exact⟨_,by simp[M,xn],xh,xj.chg F⟩
   .rename_i e
    obtain⟨u,w,xb,xd⟩:=j k xp B;exact⟨u,by rw[YaU e];exact w,xb,xd.chg F⟩⟩ (λb E=>.inl E) λf v h=>h.chg F
 rw[Sc,LP]at xi;exact H _ _ _ h (by rw[xm];exact⟨_,X,rfl,xi⟩)
def Ke(cells:List AV)(off:Nat)(S:List AV):List AV:=cells.take off++(S++cells.drop (off+S.length))
theorem A00{off:Nat}(h:off+uu.length<=R.length)(k:Nat):(Ke R off uu)[k]? = if off<=k/\k<off+uu.length then uu[k-off]? else R[k]?:=by
 unfold Ke;rw[YaQ];have q:(R.take off).length=off:=ZiB
 rw[q];split
 .rename_i O
  rw[Yai ZbG,YaK,Yan O]
 .rename_i E
  rw[YaQ];split
  .rename_i O
   rw[Yan ZbG]
  .rename_i v
   rw[Yai ZbG,YbO];exact Zhe
theorem Tr{d:TypeDesc}{b id off m:Nat}(j:o.op=.store t x y)(T:o.guard=none)(xs:o.dst=none)(C:σ.arg x=.ptr id off)(N:σ.arg y=.d (AQ v))(H:σ.hp[id]? = some (.var U R))(L:Tab P t d m b z)(M:v.length=m)(xu:off+m<=R.length)(h:AWl P s0 n ops Q rest { fr:=σ.fr,hp:=σ.hp.set id (.var U (Ke R off (v.map .d))) }):AWl P s0 n ops Q (o::rest) σ:=by
 refine AWl.step T λs X a V K hK=>?_;have xr:=V.arg x;have xq:=V.arg y;rw[C]at xr;rw[N]at xq;obtain⟨xf,g,xw,I⟩:=xr;obtain⟨g',f,A,G,Y,J,Z,w,h8⟩:=V.hp id _ H;rw[xw]at A;cases A;obtain⟨p,S,xm,xt⟩:=xq
 have xz:∀q∈p.toList,q.oneCell'=true:=λq r=>by
  obtain⟨k,B,rfl⟩:=YcH r;simp at B;obtain⟨u,h9,xc,_⟩:=xt k ZbG;rw[YaJ B]at h9;cases h9;simpa using xc
 have xl:p.toList.length=m:=by simp[xm,M]
 have xp:=run_storeCells_at P g off U p.toList 0 f s.w Y ZbG xz;simp only[Ybi]at xp;obtain⟨W,hW⟩:∃W,W=s.w.setRow g (f.toList.take off++p.toList++f.toList.drop (off+p.toList.length)).toArray:=⟨_,rfl⟩;rw[<-hW]at xp
 have xd:(execOp a.eval o).run P s.w=.ok .skip W:=by
  simp[execOp,j,I,S,Instr.storeAt,Instr.sureAddr,storeVar,Value.cells,xm,M,L.run_size,xp]
 unfold Oper.wp;rw[xd];have xj:∀b,b≠g->W.heap[b]? = s.w.heap[b]?:=λb E=>by rw[hW];exact ZjG
 have xk:W.heap[g]? = some (.cells (f.toList.take off++p.toList++f.toList.drop (off+p.toList.length)).toArray U (0,0)):=by rw[hW];exact setRow_heap s.w g f _ U _ Y
 have xa:W.heap.size=s.w.heap.size:=by rw[hW];simp[World.setRow]
 have i : GS.Ok { s with w := W } := MX V.ok (fun _ _ h => h) (by show _ ≤ W.heap.size; omega) (fun _ _ h => h) fun b ⟨c, fz, E⟩ => by
  by_cases e:b=g
  .subst e
   have E:W.heap[b]? = _:=E;rw[xk]at E;cases E;exact absurd rfl Z
  .exact ⟨c,fz,(xj b e).symm.trans E⟩
 have F : GS.Chg s { s with w := W } := ⟨by show _ ≤ W.heap.size; omega, fun _ _ h => h, fun b c t fz E => by
  by_cases e:b=g
  .subst e
   rw[Y]at E;cases E;exact⟨_,_,xk,λk B=>absurd B (w k)⟩
  .exact ⟨c,fz,(xj b e).trans E,λ_ _=>rfl⟩⟩
 have xx:off+(v.map AV.d).length<=R.length:=ZiB
 have xo := V.upd (s' := { s with w := W }) (ρ' := X) (f := fun x => x) (o' := .var U (Ke R off (v.map .d))) (V.le.turn (V.own id _ g H (show DQ (X id) = some g by rw [xw]; rfl)) (by rw [hW]; rfl) (by rw [hW]; rfl) (by rw [hW]; rfl) (fun b _ E => ⟨xj b E, fun _ h => h⟩) F (fun _ _ => rfl) fun _ => i) i F H (fun b _ E => ⟨xj b fun e => E (show DQ (X id) = some b by rw [xw, e]; rfl), fun _ => YdG⟩) (fun _ _ => rfl)
  ⟨g, _, xw, G, xk, by simp [Ke]; omega, Z, w, fun k xy B => by
   rw[A00 xx]at B
   have xh:(f.toList.take off++p.toList++f.toList.drop (off+p.toList.length)).toArray[k]? = if off<=k/\k<off+m then p[k-off]? else f[k]?:=by
    rw[YbP,Yaf,YaQ];have xb:(f.toList.take off).length=off:=ZiB
    rw[xb];split
    .rename_i O
     rw[Yai ZbG,YaK,Yan O];simp
    .rename_i xi
     rw[YaQ];split
     .rename_i O
      rw[Yan ZbG];simp
     .rename_i xA
      rw[Yai ZbG,YbO];simp;exact Zhe
   rw[xh];rw[Yap,M]at B;split at B
   .rename_i xn
    rw[Yan xn];rw[Yau]at B
    cases xv:v[k-off]? with
    |none=>rw[xv]at B;cases B
    |some x=>
     rw[xv]at B;cases B;obtain⟨u,h9,xc,xe⟩:=xt (k-off) ZbG;refine⟨u,h9,xc,?_⟩;have:DM v (k-off)=x:=by simp[DM,xv]
     rw[this]at xe;exact x.st xe F
   .rename_i xn
    rw[Yai xn];obtain⟨u,xc,xe,xg⟩:=h8 k xy B;exact⟨u,xc,xe,xg.chg F⟩⟩ (λb E=>.inl E) λl q h=>h.chg F
 rw[Sc,LP]at xo;exact hK _ _ _ h (by rw[xs];exact⟨_,X,rfl,xo⟩)
end
theorem UK{s0:An}(xb:GS.LeX s0.mine s0.g s)(Y:s.Ok){t ty T S bytes:Nat}{d:TypeDesc}(L:P.underlying t=some (.slice T))(l:Tab P T d S bytes z)(xo:z.cells.size=S)(xn:T≠335)(K:0<S)
  {v:Value} {a:List Value} (xl:s.w.ownsRow 0 T S v k a) (xF:∀b,DQ v=some b->s0.mine b\/s0.g.w.heap.size<=b) (w:∀b,DQ v=some b->∀q,s.S b q↔q<k*S)
  (b o m c:Nat) (xc:List Value) (I:xc.length=m*S) (x:0<m) (xG:∀j u,xc[j]? = some u->s.w.cell? ⟨b,o+j,none⟩=some u) (A:∀u∈xc,u.oneCell'=true) (xe:(k+m)*bytes<=140737488355328) (xm:k+m<=4611686018427387904) :
  ∃(Z:Value) (M:GS),(Builtin.append_ #[t,t] ty #[v,.slice (some ⟨b,o,none⟩) m c]).run P s.w=.ok Z M.w/\GS.LeX s0.mine s0.g M/\M.Ok/\GS.Chg s M/\M.w.ownsRow 0 T S Z (k+m) (a++xc)/\(∀b,DQ Z=some b->∀q,M.S b q↔q<(k+m)*S) /\
   (∀b,b<s.w.heap.size->DQ v≠some b->M.w.heap[b]? = s.w.heap[b]? /\ ∀q,M.S b q↔s.S b q)/\(∀b,DQ Z=some b->DQ v=some b\/s.w.heap.size<=b):=by
 obtain⟨i,J,X,xq,xt⟩:=l.info;subst xq;subst xt;have xA:∀j u,xc[j]? = some u->s.w.cell? ((⟨b,o,none⟩:Addr).add j)=some u:=λj u F=>by rw[Addr.add_lit];exact xG j u F
 have p:(a++xc).length=(k+m)*i.size:=by rw[Yaa,xl.1,I,YbG]
 have fresh:∀(cap:Nat) (arr:Array Value),k+m<=cap->cap<=maxLen->arr.size=cap*i.size->arr.toList.take ((k+m)*i.size)=a++xc->∃M:GS,M.w=s.w.drew.alloc (.cells arr T)/\GS.LeX s0.mine s0.g M/\M.Ok/\GS.Chg s M/\M.w.ownsRow 0 T i.size (.slice (some ⟨s.w.heap.size,0,none⟩) (k+m) cap) (k+m) (a++xc) /\
   (∀q,M.S s.w.heap.size q↔q<(k+m)*i.size)/\(∀b,b<s.w.heap.size->M.w.heap[b]? = s.w.heap[b]? /\ ∀q,M.S b q↔s.S b q):=by
  intro cap arr xk xh xu xD;have Q:Ext s.w (s.w.drew.alloc (.cells arr T)):=(Ext.refl _).drew.alloc _;have xi:(s.w.drew.alloc (.cells arr T)).heap[s.w.heap.size]? = some (.cells arr T (0,0)):=heap_alloc_new s.w.drew _;have H:(s.w.drew.alloc (.cells arr T)).heap.size=s.w.heap.size+1:=Yec ..;have O:∀q,¬s.S s.w.heap.size q:=λq B=>absurd (Y.lt _ _ B) (Ycf _);have xw:∀b q,b<s.w.heap.size->((s.S b q\/(b=s.w.heap.size/\q<(k+m)*i.size))↔s.S b q):=λb q E=>⟨λh=>h.elim id λh=>absurd E ZbG,.inl⟩
  have xd:GS.Ok ⟨λb q=>s.S b q\/(b=s.w.heap.size/\q<(k+m)*i.size),s.tag,s.w.drew.alloc (.cells arr T)⟩:=⟨λb q E=>by
    show b<(s.w.drew.alloc (.cells arr T)).heap.size;rcases E with E | ⟨E,_⟩
    .have:=Y.lt _ _ E;omega
    .omega,λb q ⟨f,fz,E⟩=>by
    have E:(s.w.drew.alloc (.cells arr T)).heap[b]? = _:=E;have xp:=Bw E;by_cases e:b=s.w.heap.size
    .subst e
     rw[xi]at E;cases E;exact absurd rfl xn
    .exact .inl (Y.safe b q ⟨f,fz,(Q.block ZbG).symm.trans E⟩)⟩
  refine⟨⟨λb q=>s.S b q\/(b=s.w.heap.size/\q<(k+m)*i.size),s.tag,s.w.drew.alloc (.cells arr T)⟩,rfl,?_,xd,?_,?_,λq=>⟨λh=>h.elim (λh=>absurd h (O q)) λh=>h.2,λh=>.inr ⟨rfl,h⟩⟩,λb E=>⟨Q.block E,λq=>xw b q E⟩⟩
  .refine xb.trans ⟨Q,λ_ _ h=>.inl h,λb q E h=>(xw b q E).1 h,λ_ _=>rfl,λ_=>xd⟩
  .exact ⟨Q.size,λ_ _ h=>.inl h,λb f n fz E=>⟨f,fz,(Q.block (Bw E)).trans E,λ_ _=>rfl⟩⟩
  .exact ⟨p,.inr ⟨_,cap,arr,rfl,Yaw _,xi,xk,xh,xu,xD⟩⟩
 have xz:k+m<=maxLen:=Zjd
 have xC:∀xr,xr<k+m->∃M:GS,M.w=s.w.drew.alloc (.cells (a.toArray++xc.toArray++Builtin.zeroCells z.cells (grownCap s.w (k+m) xr T-(k+m))) T)/\GS.LeX s0.mine s0.g M/\M.Ok/\GS.Chg s M/\M.w.ownsRow 0 T i.size (.slice (some ⟨s.w.heap.size,0,none⟩) (k+m) (grownCap s.w (k+m) xr T)) (k+m) (a++xc) /\
   (∀q,M.S s.w.heap.size q↔q<(k+m)*i.size)/\(∀b,b<s.w.heap.size->M.w.heap[b]? = s.w.heap[b]? /\ ∀q,M.S b q↔s.S b q):=by
  intro xr N;have xf:=grownCap_ge s.w (k+m) xr T;have xv:grownCap s.w (k+m) xr T<=maxLen:=grownCap_le_maxLen s.w (k+m) xr T xz;refine fresh _ _ xf xv ?_ ?_
  .simp only[Array.size_append,Ydd,size_zeroCells,xo,xl.1,I,<-YbG]
   exact Zhe
  .simp only[Array.toList_append,Yaf]
   rw[<-Yaf,<-p];exact Yep
 rcases xl.2 with⟨rfl,rfl⟩ | ⟨g,cap,xj,rfl,hbg,hg,hnc,xv,hcs,htake⟩
 .have C:a=[]:=YaF (by simpa using xl.1)
  subst C;have V:=run_append_nil (P:=P) s.w t ty T i z L J X ⟨b,o,none⟩ m c xc I xA x ZbG (by have E:=xe;simp only[YaG]at E;omega);obtain⟨M,G,y,U,e4,e5,e6,e7⟩:=xC 0 ZbG;simp only[YaG,Ycs,Array.empty_append]at G e5 e6 ⊢;exact ZgN
 .by_cases xB:k+m<=cap
  .have xE:k*i.size+xc.length<=xj.size:=by rw [I, hcs, <-YbG];exact YaC _ xB
   have V:=run_append_room (P:=P) s.w t ty T i L J g k cap xj hg ⟨b,o,none⟩ m c xc I xA A xB xE;obtain⟨W,R⟩:∃W,W=s.w.setRow g (xj.toList.take (k*i.size)++xc++xj.toList.drop (k*i.size+xc.length)).toArray:=⟨_,rfl⟩;rw[<-R]at V;have xg:∀b,b≠g->W.heap[b]? = s.w.heap[b]?:=λb E=>by rw[R];exact ZjG
   have xi:W.heap[g]? = some (.cells (xj.toList.take (k*i.size)++xc++xj.toList.drop (k*i.size+xc.length)).toArray T (0,0)):=by rw[R];exact setRow_heap s.w g xj _ T _ hg
   have H:W.heap.size=s.w.heap.size:=by rw[R];simp[World.setRow]
   have xx:=Bw hg;have xI:∀q,s.S g q↔q<k*i.size:=w g rfl;have xw:∀b q,b≠g->((s.S b q\/(b=g/\q<(k+m)*i.size))↔s.S b q):=λb q E=>⟨λh=>h.elim id λh=>absurd h.1 E,.inl⟩
   have xd:GS.Ok ⟨λb q=>s.S b q\/(b=g/\q<(k+m)*i.size),s.tag,W⟩:=⟨λb q E=>by
     show b<W.heap.size;rcases E with E | ⟨E,_⟩
     .have:=Y.lt _ _ E;omega
     .omega,λb q ⟨f,fz,E⟩=>by
     have E:W.heap[b]? = _:=E;by_cases e:b=g
     .subst e
      rw[xi]at E;cases E;exact absurd rfl xn
     .exact .inl (Y.safe b q ⟨f,fz,(xg b e).symm.trans E⟩)⟩
   have xy:∀q,q<k*i.size->(xj.toList.take (k*i.size)++xc++xj.toList.drop (k*i.size+xc.length)).toArray[q]? = xj[q]?:=λq B=>by
    rw[YbP,Yaf,Yav ZiB,YaK,Yan B];simp
   have xJ : GS.Chg s ⟨fun b q => s.S b q ∨ (b = g ∧ q < (k + m) * i.size), s.tag, W⟩ := ⟨by show _ ≤ W.heap.size; omega, fun _ _ h => .inl h, fun b f n fz E => by
    by_cases e:b=g
    .subst e
     rw[hg]at E;cases E;exact⟨_,_,xi,λq B=>xy q ((xI q).1 B)⟩
    .exact ⟨f,fz,(xg b e).trans E,λ_ _=>rfl⟩⟩
   refine⟨_,⟨λb q=>s.S b q\/(b=g/\q<(k+m)*i.size),s.tag,W⟩,V,xb.turn (xF g rfl) (by show W.os=_;rw[R];rfl) (by show W.tape=_;rw[R];rfl) (by show W.output=_;rw[R];rfl) (λb _ E=>⟨xg b E,λq h=>(xw b q E).1 h⟩) xJ (λ_ _=>rfl) λ_=>xd,xd,xJ,?_,?_,λb E r=>?_,λb E=>.inl E⟩
   .refine ⟨p,.inr ⟨g,cap,_,rfl,hbg,xi,xB,xv,?_,?_⟩⟩
    .simp only[Ydd,Yaa,YaO,YbS,Yee]
     omega
    .rw [htake,<-p]
     exact Yep
   .intro b E q
    cases E;constructor
    .rintro (h | h)
     .have:=(xI q).1 h
      have:k*i.size<=(k+m)*i.size:=YaC _ ZbG;omega
     .exact h.2
    .intro h
     exact .inr ⟨rfl,h⟩
   .have xa:b≠g:=λe=>r (by rw [e]; rfl)
    exact⟨xg b xa,λq=>xw b q xa⟩
  .have xH:∀j u,a[j]? = some u->s.w.cell? ((⟨g,0,none⟩:Addr).add j)=some u:=xl.cells (g:=g) rfl
   have V:=run_append_grow (P:=P) s.w t ty T i z L J X ⟨g,0,none⟩ k cap a xl.1 xH ⟨b,o,none⟩ m c xc I xA ZbG ZbG (growslice_fits ZbG xe);obtain⟨M,G,y,U,e4,e5,e6,e7⟩:=xC cap ZbG;exact ZgN
def down(id:Nat)(x:D):AV->AV
 |.own j=>bif Nat.beq j id then .d x else .own j
 |.fn f Y=>bif Y.contains id then .d CC else .fn f Y
 |av=>av
theorem KM(a S:List (List D))(k:Nat):(a++S).getD k []=if k<a.length then a.getD k []else S.getD (k-a.length) []:=by
 rw[Yab,YaQ];split<;>simp[Yab]
section
variable {P:Program} {s0:An} {n:Nat} {ops:Array Oper} {Q:Exit->AS->Prop} {rest:List Oper} {o:Oper} {σ:AS}
def AS.appd(σ:AS)(q:Option Tmp)(id T s:Nat)(A S:List (List D)):AS:=
 AS.put { fr:=σ.fr.map λp=>(p.1,down id (slD T s A) p.2),hp:=(σ.hp.map (Ow.mapA (down id (slD T s A)))).set id (.row T s (A++S)) } q (.own id)
theorem QM{T F:Nat}{b o:Nat}(h:∀k,k<vm.length->(vm.getD k []).length=F/\Lies s b (o+k*F) T (vm.getD k [])):∃M:List Value,M.length=vm.length*F/\(∀j u,M[j]? = some u->s.w.cell? ⟨b,o+j,none⟩=some u)/\(∀u∈M,u.oneCell'=true) /\
  ∀k j,k<vm.length->j<F->∃u,M[k*F+j]? = some u/\u.oneCell'=true/\(DM (vm.getD k []) j).rel s u:=by
 have key:∀i,∃u,i<vm.length*F->s.w.cell? ⟨b,o+i,none⟩=some u/\u.oneCell'=true/\(DM (vm.getD (i/F) []) (i%F)).rel s u:=λi=>by
  by_cases J:i<vm.length*F
  .have t:0<F:=YbA λe=>by rw [e] at J;simp at J
   have B:i/F<vm.length:=(YdK t).2 J;have W:i%F<F:=YaV _ t;obtain⟨q,A⟩:=h (i/F) B;obtain⟨u,K,Y,E⟩:=A.cell (k:=i%F) ZbG;refine⟨u,λ_=>⟨?_,Y,E⟩⟩;rw[<-K];have:=YcY i F;rw[YaN]at this;rw[YbT,this]
  .exact ⟨undef,λh=>absurd h J⟩
 obtain⟨f,p⟩:∃f:Nat->Value,∀i,i<vm.length*F->s.w.cell? ⟨b,o+i,none⟩=some (f i)/\(f i).oneCell'=true/\(DM (vm.getD (i/F) []) (i%F)).rel s (f i):=⟨λi=>(key i).choose,λi J=>(key i).choose_spec J⟩;refine⟨(List.range (vm.length*F)).map f,by simp,λj u W=>?_,λu S=>?_,λk j B W=>?_⟩
 .rw [Yau]at W
  by_cases G:j<vm.length*F
  .rw [Ydp G]at W
   cases W;exact(p j G).1
  .rw [YbE (by simp; omega)] at W
   cases W
 .obtain ⟨i,J,rfl⟩:=YaA.1 S
  exact(p i (Ybd.1 J)).2.1
 .have O:k*F+j<vm.length*F:=by
   have:(k+1)*F<=vm.length*F:=YaC F B;exact Zhf
  refine⟨f (k*F+j),by rw[Yau,Ydp O];rfl,(p _ O).2.1,?_⟩;have:=(p _ O).2.2
  have C:(k*F+j)/F=k:=by
   rw[YaN,YcR ZbG,YbJ W];omega
  have y:(k*F+j)%F=j:=by
   rw[YaN,Ydu,YaS W]
  rwa [C,y]at this
theorem Tt{t T T2 sz bytes id m b:Nat}{d:TypeDesc}(xb:o.op=.call { callee:=.builtin .append,args:=#[x,y],argTypes:=#[t,t] })(hg:o.guard=none)(F:σ.arg x=.own id)(V:HV σ.hp (σ.arg y)=some (slD T2 sz ud))(hh:σ.hp[id]? = some (.row T sz vm))(O:Tab P t (.slice T) m b u)(hT:Tab P T d sz bytes z)(xn:z.cells.size=sz)(H:Wh o.dst n=true)(xj:(vm.length+ud.length)*bytes<=140737488355328)(xm:vm.length+ud.length<=4611686018427387904)(h:AWl P s0 n ops Q rest (σ.appd o.dst id T sz vm ud)):AWl P s0 n ops Q (o::rest) σ:=by
 refine AWl.step hg λs Z a xa K hK=>?_;have xp:=xa.arg x;rw[F]at xp;obtain⟨xh,r⟩:=xp;obtain⟨xs,q,L,l,h5,h6⟩:=xa.hp id _ hh;have xt:(slD T sz vm).rel s (Z id):=Ex (av:=.own id) xa.hp ⟨xh,rfl⟩ (by simp[HV,hh]);obtain⟨A,c,e2,h7,h8,h9⟩:=Ex xa.hp (xa.arg y) V
 have xx:∀(v':Value) (U:GS) (xv:List Value),(execOp a.eval o).run P s.w=.ok (.value v') U.w->GS.LeX s0.mine s0.g U->U.Ok->GS.Chg s U->U.w.ownsRow 0 T sz v' (vm.length+ud.length) xv->(∀b,DQ v'=some b->∀k,U.S b k↔k<(vm.length+ud.length)*sz) ->
   (∀b,b<s.w.heap.size->DQ (Z id)≠some b->U.w.heap[b]? = s.w.heap[b]? /\ ∀k,U.S b k↔s.S b k)->(∀b,DQ v'=some b->DQ (Z id)=some b\/s.w.heap.size<=b) ->
   (∀k,k<(vm++ud).length->((vm++ud).getD k []).length=sz/\∀j,j<sz->∃M,xv[k*sz+j]? = some M/\M.oneCell'=true/\(DM ((vm++ud).getD k []) j).rel U M)->o.wp P a s.w K (GG s0 n Q):=by
  intro v' U xv xe q1 q2 q3 q4 q5 q6 q7 q8;unfold Oper.wp;rw[xe];have I:(vm++ud).length=vm.length+ud.length:=Yaa
  have xl:=xa.upd (s':=U) (o':=.row T sz (vm++ud)) (ρ':=λi=>if i=id then v' else Z i) (f:=down id (slD T sz vm)) q1 q2 q3 hh q6 (λj Y=>Yai Y)
   ⟨xv, by simp only [Yan]; rw [I]; exact q4, L, l, fun b G k => by simp only [Yan] at G; rw [I]; exact q5 b G k, q8⟩ (fun b G => by replace G : DQ (if id = id then v' else Z id) = some b := G; rw [Yan rfl] at G; exact q7 b G) fun av v xg => by
    cases av with
    |d x=>exact x.st xg q3
    |ptr i off=>
     obtain⟨p1,bb,p2,p3⟩:=xg;refine⟨p1,bb,?_,p3⟩;show(if i=id then v' else Z i)=_;by_cases e:i=id
     .exfalso
      subst e;rcases q.2 with⟨w1,_⟩ | ⟨g,cap,cur,w1,_⟩<;>rw[w1]at p2<;>cases p2
     .rw [Yai e];exact p2
    |own j=>
     obtain⟨p1,p2⟩:=xg;show AVr σ.hp.length _ U (bif Nat.beq j id then .d (slD T sz vm)else .own j) v
     cases G:Nat.beq j id with
     |true=>
      have e:j=id:=Yao G;subst e;rw[p2];exact(slD T sz vm).st xt q3
     |false=>
      have e:j≠id:=YaI G;exact⟨p1,p2.trans (Yai e).symm⟩
    |fn f xd=>
     obtain⟨p1,p2⟩:=xg;show AVr σ.hp.length _ U (bif xd.contains id then .d CC else .fn f xd) v
     cases G:xd.contains id with
     |true=>trivial
     |false=>
      have R:id∉xd:=λh=>by rw[Ybu.2 h]at G;cases G
      exact⟨p1,by rw[p2,YaY λi J=>(Yai λe=>R (by rw[<-e];exact J):(if i=id then v' else Z i)=Z i)]⟩
  have xi:=xl.put (GS.Le.refl U) (Jz H) (v:=v') (r:=.own id) ⟨by simpa using xh,by simp⟩;exact hK _ _ _ h ⟨U,_,rfl,xi⟩
 have xu:∀v' S,(Builtin.append_ #[t,t] o.type #[Z id,a.eval y]).run P s.w=.ok v' S->(execOp a.eval o).run P s.w=.ok (.value v') S:=λv' S X=>by
  simp only[execOp,xb,resolve,invoke,builtin,Sem.run_bind,Sem.run_pure,Result.andThen_ok,YcK,Ybc,Ycj,r,X]
 rcases Yax ud.length with w | w
 .obtain rfl:ud=[]:=YaF w
  obtain⟨i,J,hz,xo,xq⟩:=hT.info
  have xy:∃B N C,Z id=.slice B N C/\N<=C:=Zax
  obtain⟨B,N,C,w1,w2⟩:=xy
  have X:(Builtin.append_ #[t,t] o.type #[Z id,a.eval y]).run P s.w=.ok (Z id) s.w:=by
   rw[e2,w1]
   cases A with
   |none=>exact run_append_nothing s.w _ _ _ _ i O.und J _ _ _ w2 _ (Src.ofNil s.w O.und c)
   |some ad=>exact run_append_nothing s.w _ _ _ _ i O.und J _ _ _ w2 _ (Src.ofSlice s.w O.und _ _ _ [] ZbV ZbV ZbV)
  refine xx (Z id) s xs (xu _ _ X) xa.le xa.ok (GS.Chg.refl s) ZdS (λb G k=>by simpa using h5 b G k) (λb G _=>⟨rfl,λ_=>YdG⟩) (λb G=>.inl G) λk E=>?_;rw[YbC]at E ⊢;exact⟨(h6 k E).1,(h6 k E).2⟩
 .obtain ⟨g,p,rfl,xc⟩:=h9 w
  obtain⟨xf,n1,n2,n3,n4⟩:=QM xc;obtain⟨v',U,X,q1,q2,q3,q4,q5,q6,q7⟩:=UK (P:=P) (ty:=o.type) xa.le xa.ok O.und hT xn L l q (λb G=>xa.own id _ b hh G) h5 g p ud.length c xf n1 w n2 n3 xj xm;refine xx v' U (xs++xf) (xu _ _ (by rw[e2];exact X)) q1 q2 q3 q4 q5 q6 q7 λk E=>?_;rw[Yaa]at E;rw[KM];have xr:xs.length=vm.length*sz:=q.1;split
  .rename_i W
   refine⟨(h6 k W).1,λj Y=>?_⟩;obtain⟨M,r1,xw,r3⟩:=(h6 k W).2 j Y;refine⟨M,?_,xw,(DM _ j).st r3 q3⟩;rw[Yav]
   .exact r1
   .rw [xr]
    have:(k+1)*sz<=vm.length*sz:=YaC sz W;exact Zhf
  .rename_i xk
   refine⟨(xc (k-vm.length) ZbG).1,λj Y=>?_⟩;obtain⟨M,r1,xw,r3⟩:=n4 (k-vm.length) j ZbG Y;refine⟨M,?_,xw,(DM _ j).st r3 q3⟩;have e3:k*sz=vm.length*sz+(k-vm.length)*sz:=ZiC
   rw[Yal ZbG,xr,<-r1];exact Zhe
theorem VF{ρ:Nat->Value}{a:Act}{T sz cap:Nat}{arr:Array Value}(hst:StI s0 n σ a s ρ)(i:T≠335)(d:0<sz)(F:cap<=maxLen)(r:arr.size=cap*sz){dst:Option Tmp}(e:Wh dst n=true) :
  St s0 n (σ.new dst (.own σ.hp.length) (.row T sz [])) (a.put dst (.slice (some ⟨s.w.heap.size,0,none⟩) 0 cap)) (s.w.alloc (.cells arr T)):=
 ⟨s.mk' arr T 0, _, rfl, hst.new (s.le_mk' arr T 0 i) (Jz e) (u := .slice (some ⟨s.w.heap.size, 0, none⟩) 0 cap) ⟨by omega, by simp⟩
  ⟨[], ⟨by simp, .inr ⟨s.w.heap.size, cap, arr, by simp, Yaw _, heap_alloc_new s.w _, Yaw _, F, r, by simp⟩⟩, i, d, fun b E k => by
   simp only[Yan]at E;cases E;exact⟨λB=>absurd (hst.ok.lt _ _ B) (Ycf _),λB=>by simp at B⟩,λk B=>by simp at B⟩ λb E=>by cases E;exact Yah _⟩
theorem A1H{t T m b B bytes:Nat}{d:TypeDesc}(F:o.op=.buildSlice t 0 #[])(E:o.guard=none)(L:Tab P t (.slice T) m b u)(i:Tab P T d B bytes z)(J:T≠335)(q:0<B)(e:Wh o.dst n=true)(h:AWl P s0 n ops Q rest (σ.new o.dst (.own σ.hp.length) (.row T B []))):AWl P s0 n ops Q (o::rest) σ:=by
 refine AWl.step E λs X a C K G=>?_
 have I:(execOp a.eval o).run P s.w=.ok (.value (.slice (some ⟨s.w.heap.size,0,none⟩) 0 0)) (s.w.alloc (.cells #[] T)):=by
  have A:∀arr,(newRow T arr).run P s.w=.ok ⟨s.w.heap.size,0,none⟩ (s.w.alloc (.cells arr T)):=λ_=>rfl;simp[execOp,F,Instr.buildSlice,run_underlying L.und,i.run_size,Instr.fill,A];exact ZhC
 unfold Oper.wp;rw[I];exact G _ _ _ h (VF C J q (by simp[maxLen]) ZbV e)
theorem A4j{t T m b I bytes:Nat}{d:TypeDesc}{c:Int}(W:o.op=.makeSlice t x y)(V:o.guard=none)(C:σ.arg x=.d (ex (.int .i64 0)))(N:σ.arg y=.d (ex (.int .i64 c)))(L:Tab P t (.slice T) m b u)(Y:Tab P T d I bytes z)(p:0<=c)(F:c<=1000000000)(R:bytes<=65536)(r:T≠335)(A:0<I)(E:Wh o.dst n=true)(h:AWl P s0 n ops Q rest (σ.new o.dst (.own σ.hp.length) (.row T I []))):AWl P s0 n ops Q (o::rest) σ:=by
 refine AWl.step V λs X a S K Z=>?_;have q:a.eval x=.int .i64 0:=St.exD C ⟨s,X,rfl,S⟩;have O:a.eval y=.int .i64 c:=St.exD N ⟨s,X,rfl,S⟩;obtain⟨i,J,M,H,U⟩:=Y.info;have g:IntKind.i64.wrap 0=0:=rfl;have wc:IntKind.i64.wrap c=c:=IntWalk.i64_in _ ZbG;obtain⟨k,rfl⟩:=YbH p;have B:k<=1000000000:=by omega
 have xf:bytes*k<=65536*1000000000:=YaX R B
 have xg:((bytes:Int)*(k:Int))<=281474976710656:=by
  have:((bytes*k:Nat):Int)<=((65536*1000000000:Nat):Int):=Int.ofNat_le.2 xf;rw[Yds]at this;omega
 have xc:k*bytes<=roomBytes:=by
  rw[YaN];have:roomBytes=140737488355328:=rfl;omega
 obtain⟨arr,w,f⟩:∃arr:Array Value,arr.size=k*I/\(execOp a.eval o).run P s.w=.ok (.value (.slice (some ⟨s.w.heap.size,0,none⟩) 0 k)) (s.w.alloc (.cells arr T)):=by
  have G:∀arr,(newRow T arr).run P s.w=.ok ⟨s.w.heap.size,0,none⟩ (s.w.alloc (.cells arr T)):=λ_=>rfl;have xd:¬(281474976710656<(bytes:Int)*(k:Int)):=by omega
  have xe:¬(roomBytes<k*bytes):=by omega
  have xb:¬((k:Int)<0):=by omega
  by_cases l:k*I=0
  .refine ⟨(Array.range (k*I)).map (λj=>(#[]:Array Value)[j%0]!), by simp, ?_⟩
   simp[execOp,W,q,O,Instr.makeSlice,run_underlying L.und,asInt,asIntOf,typeInfo,J,U,g,wc,xd,askRoom,xe,Y.run_size,l,G,sizeOf,H,xb]
  .refine ⟨(Array.range (k*I)).map (λj=>z.cells[j%z.cells.size]!), by simp, ?_⟩
   have xa:k≠0:=λe=>l (by rw[e,YcD]);have v:I≠0:=by omega
   simp[execOp,W,q,O,Instr.makeSlice,run_underlying L.und,asInt,asIntOf,typeInfo,J,U,g,wc,xd,askRoom,xe,sizeOf,H,xa,v,zeroValue,M,G,xb];exact λh=>absurd h l
 unfold Oper.wp;rw[f];exact Z _ _ _ h (VF S r A Zjd w E)
end
def IT(s:GS)(f:Array Value)(S:List D):Prop:=f.size=S.length/\∀k,k<S.length->∃u,f[k]? = some u/\u.oneCell'=true/\(DM S k).rel s u
def Ue(S:List D)(off:Nat)(o:List D):List D:=S.take off++(o++S.drop (off+o.length))
theorem Iw{off:Nat}(h:off+vn.length<=v.length):(Ue v off vn).length=v.length:=by simp[Ue];omega
theorem A98{off:Nat}(h:off+vn.length<=v.length)(k:Nat):DM (Ue v off vn) k=if off<=k/\k<off+vn.length then DM vn (k-off)else DM v k:=by
 unfold Ue DM;rw[Yab,YaQ];have q:(v.take off).length=off:=ZiB
 rw[q];split
 .rename_i O
  rw[Yai ZbG,YaK,Yan O];simp
 .rename_i E
  rw[YaQ];split
  .rename_i O
   rw[Yan ZbG];simp
  .rename_i A
   rw[Yai ZbG,YbO];simp;congr 2;omega
theorem Uz(f:Array Value):∀(l:List (Value×Nat)) (b:Nat) (off:Nat),(∀p∈l,b<=p.2)->(l.map (·.2)).Pairwise (· < ·)->∀k,(l.foldl (λf (p:Value×Nat)=>f.setIfInBounds (off+p.2) p.1) f).size=f.size /\
  ((∀p∈l,off+p.2≠k)->(l.foldl (λf (p:Value×Nat)=>f.setIfInBounds (off+p.2) p.1) f)[k]? = f[k]?)/\(∀p∈l,off+p.2=k->k<f.size->(l.foldl (λf (p:Value×Nat)=>f.setIfInBounds (off+p.2) p.1) f)[k]? = some p.1)
 |[],b,off,_,_,k=>⟨rfl,λ_=>rfl,λp G=>by cases G⟩
 |q::l,b,off,E,G,k=>by
  have r:=Ydv.1 G;obtain⟨A,B,K⟩:=Uz (f.setIfInBounds (off+q.2) q.1) l (q.2+1) off (λp g=>r.1 p.2 (Yca g)) r.2 k;refine⟨by rw[Ydw,A];simp,λC=>?_,λp I C O=>?_⟩
  .rw [Ydw,B λp g=>C p (Ybo _ g),YaU (C q Ybp)]
  .rw [Ydw]
   rcases YaM.1 I with rfl | g
   .rw [B λs F=>by have:p.2<s.2:=r.1 s.2 (Yca (f:=λx:Value×Nat=>x.2) F); omega, C]
    simp[O]
   .exact K p g C ZeZ
theorem Abf{f J:Array Value}{off:Nat}(h:IT s f v)(r:IT s J vn)(m:off+vn.length<=v.length):IT s (J.zipIdx.foldl (λf (p:Value×Nat)=>f.setIfInBounds (off+p.2) p.1) f) (Ue v off vn):=by
 rw[<-Array.foldl_toList];have C:J.zipIdx.toList=J.toList.zipIdx:=by simp
 rw[C]
 have F:(J.toList.zipIdx.map (·.2)).Pairwise (· < ·):=by
  show(List.map Prod.snd _).Pairwise _;rw[List.zipIdx_map_snd];exact List.pairwise_lt_range'
 have key:=Uz f J.toList.zipIdx 0 off (λ_ _=>Yaw _) F;refine⟨by rw[(key 0).1,Iw m,h.1],λk B=>?_⟩;rw[Iw m]at B;rw[A98 m];obtain⟨q,A,K⟩:=key k;by_cases c:off<=k/\k<off+vn.length
 .rw [Yan c]
  obtain⟨u,Y,n,E⟩:=r.2 (k-off) ZbG;refine⟨u,?_,n,E⟩;refine K (u,k-off) ?_ (by show off+(k-off)=k;omega) (by rw[h.1];exact B);rw[YbN];simpa using Y
 .rw [Yai c]
  obtain⟨u,Y,n,E⟩:=h.2 k B;refine⟨u,?_,n,E⟩;rw[A λp G=>?_,Y];rw[YbN]at G;have:=(Yae.1 G).1;simp[r.1]at this;omega
def Hj(place:Nat->Option (Nat×Nat))(S:List D):List (Nat×List D)->Option (List D)
 |[]=>some S
 |(i,o)::r=>match place i with
  |some (off,size)=>bif Nat.beq o.length size&&Nat.ble (off+size) S.length then Hj place (Ue S off o) r else none
  |none=>none
def Abu(s:GS)(v:Value)(o:List D):Prop:=IT s v.cells o
def A1g(s:GS):List (Nat×Value)->List (Nat×List D)->Prop
 |[],[]=>True
 |(i,v)::l,(j,o)::r=>i=j/\Abu s v o/\A1g s l r
 |_,_=>False
theorem Ld{s:GS}{place:Nat->Option (Nat×Nat)}:∀{l:List (Nat×Value)} {r:List (Nat×List D)} {f:Array Value} {S O:List D},A1g s l r->IT s f S->Hj place S r=some O->∃L,Instr.fill place f l=some L/\IT s L O
 |[],[],f,S,O,_,F,p=>by cases p;exact⟨f,rfl,F⟩
 |[],_::_,_,_,_,h,_,_=>h.elim
 |_::_,[],_,_,_,h,_,_=>h.elim
 |(i,v)::l,(j,o)::r,f,S,O,⟨C,G,V⟩,F,p=>by
  subst C;unfold Hj at p
  cases g:place i with
  |none=>rw[g]at p;cases p
  |some q=>
   obtain⟨off,size⟩:=q;rw[g]at p;simp only at p
   cases E:(Nat.beq o.length size&&Nat.ble (off+size) S.length)with
   |false=>rw[E]at p;cases p
   |true=>
    rw[E]at p;simp only[Yam,YdX]at E;have b:o.length=size:=Yao E.1;have y:=E.2;have A:v.cells.size=size:=by rw[G.1,b]
    have B:=Abf F G (off:=off) ZbG;obtain⟨L,K,Y⟩:=Ld V B p;refine⟨L,?_,Y⟩;unfold Instr.fill;rw[g];have k:=F.1;simp only;rw[Yai (by simp only[YaZ,Yba,ne_eq,not_or,Decidable.not_not];omega)];exact K
def PartsA(G:List Ow)(arg:Operand->AV):List (Nat×Operand)->List (Nat×List D)->Prop
 |[],[]=>True
 |(i,x)::l,(j,o)::r=>i=j/\(arg x=.d (AQ o)\/∃y,HV G (arg x)=some y/\One G (arg x)/\o=[y])/\PartsA G arg l r
 |_,_=>False
theorem PartsA.nil{hp:List Ow}:PartsA hp vz [] []:=trivial
theorem A3Z{hp:List Ow}{i:Nat}{r:List (Nat×List D)}(h:vz x=.d (AQ v))(V:PartsA hp vz ue r):PartsA hp vz ((i,x)::ue) ((i,v)::r):=⟨rfl,.inl h,V⟩
theorem PartsA.rel{base:Nat}{ρ:Nat->Value}{s:GS}{hp:List Ow}{arg:Operand->AV}{ev:Operand->Value}(G:HpOk base ρ s hp):∀{l:List (Nat×Operand)} {r:List (Nat×List D)},PartsA hp arg l r->(∀p∈l,AVr hp.length ρ s (arg p.2) (ev p.2))->A1g s (l.map λp=>(p.1,ev p.2)) r
 |[],[],_,_=>trivial
 |[],_::_,h,_=>h.elim
 |_::_,[],h,_=>h.elim
 |(i,x)::l,(j,o)::r,⟨q,A,K⟩,h=>by
  refine⟨q,?_,PartsA.rel G K λp hp=>h p (Ybo _ hp)⟩;have C:=h (i,x) Ybp;rcases A with A | ⟨y,A,h4,rfl⟩
  .have C:AVr hp.length ρ s (arg x) (ev x):=C
   rw[A]at C;obtain⟨f,e,n,F⟩:=C;show IT s (ev x).cells o;rw[e];exact⟨n,F⟩
  .have n:=h4 _ _ _ _ G C
   have F:=Ex G C A;show IT s (ev x).cells [y];have:(ev x).cells=#[ev x]:=by cases E:ev x<;>first | rfl | (rw[show ev x=_ from E]at n;cases n)
   rw[this];refine⟨rfl,λk B=>?_⟩;obtain rfl:k=0:=by simp at B;omega
   exact⟨ev x,rfl,n,F⟩
def FieldsT(P:Program):List Field->List (Nat×Nat)->Prop
 |[],[]=>True
 |f::l,p::r=>(∃d b z,Tab P f.type d p.2 b z)/\p.1=f.offset/\FieldsT P l r
 |_,_=>False
theorem FieldsT.nil:FieldsT P [] []:=trivial
theorem FieldsT.cons{f:Field}{l:List Field}{d:TypeDesc}{n b:Nat}{r:List (Nat×Nat)}(h:Tab P f.type d n b z)(V:FieldsT P l r):FieldsT P (f::l) ((f.offset,n)::r):=⟨⟨d,b,z,h⟩,rfl,V⟩
theorem FieldsT.run {P : Program} {w : World} : ∀ {l : List Field} {r : List (Nat × Nat)}, FieldsT P l r → (l.mapM fun f => do pure (f.offset, ← sizeOf f.type) : Sem (List (Nat × Nat))).run P w = .ok r w
 |[],[],_=>by simp
 |[],_::_,h=>h.elim
 |_::_,[],h=>h.elim
 |f::l,(o,n)::r,⟨⟨d,b,z,q⟩,A,K⟩=>by
  have v:=FieldsT.run (w:=w) K;have A:o=f.offset:=A;subst A;simp only[List.mapM_cons,Sem.run_bind,q.run_size,Result.andThen_ok,Sem.run_pure,v]
def Wc(l:List Value):List D:=l.map ex
theorem UG(h:HO vE.toList=true):IT s vE (Wc vE.toList):=by
 refine⟨by simp[Wc],λk B=>?_⟩;simp[Wc]at B;refine⟨vE[k],YaJ B,Yaj.1 h _ ZbV,?_⟩;have:DM (Wc vE.toList) k=ex vE[k]:=by simp[DM,Wc,B]
 rw[this];rfl
section
variable {P:Program} {hp:List Ow} {o:Oper} {arg:Operand->AV}
theorem Quiet.build{M:Array Field}{n b:Nat}(I:o.op=.build t ue.toArray)(L:Tab P t (.struct M) n b z)(g:FieldsT P M.toList vw)(q:HO z.cells.toList=true)(V:PartsA hp arg ue uv)(E:Hj (λi=>vw[i]?) (Wc z.cells.toList) uv=some v):Quiet P hp o arg (.d (AQ v)):=by
 refine⟨λbase s X B G O Z h=>?_⟩;have A:=PartsA.rel (ev:=B) Z V λp Q=>h p.2 (by rw[I];simp only[Op.operands,YdQ];exact Yca Q);obtain⟨N,K,Y⟩:=Ld A (UG q) E;refine Cd (v:=.agg N) ?_ ⟨GS.Le.refl s,N,rfl,Y⟩;have C:=FieldsT.run (w:=s.w) g
 have F : (M.mapM fun f => do pure (f.offset, ← sizeOf f.type) : Sem (Array (Nat × Nat))).run P s.w = .ok vw.toArray s.w := by
  rw[<-Array.toArray_toList (xs:=M),List.mapM_toArray,Sem.run_map,C];rfl
 have J:(λx:Nat=>vw.toArray[x]?)=λi=>vw[i]?:=by funext i;simp
 have y:(ue.toArray.map λp:Nat×Operand=>(p.1,B p.2)).toList=ue.map λp=>(p.1,B p.2):=by simp
 simp only[execOp,I,Instr.build,Sem.run_bind,L.run_zero,Result.andThen_ok,run_underlying L.und,F,J,y,K,Sem.run_pure]
theorem SX{len n b g E:Nat}{d:TypeDesc}(G:o.op=.build t ue.toArray)(L:Tab P t (.array len U) n b z)(a:Tab P U d g E u)(q:HO z.cells.toList=true)(V:PartsA hp arg ue uv)(C:Hj (λi=>some (i*g,g)) (Wc z.cells.toList) uv=some v):Quiet P hp o arg (.d (AQ v)):=by
 refine⟨λbase s X B F J Z h=>?_⟩;have A:=PartsA.rel (ev:=B) Z V λp M=>h p.2 (by rw[G];simp only[Op.operands,YdQ];exact Yca M);obtain⟨I,K,Y⟩:=Ld A (UG q) C;refine Cd (v:=.agg I) ?_ ⟨GS.Le.refl s,I,rfl,Y⟩;have y:(ue.toArray.map λp:Nat×Operand=>(p.1,B p.2)).toList=ue.map λp=>(p.1,B p.2):=by simp
 simp only[execOp,G,Instr.build,Sem.run_bind,L.run_zero,Result.andThen_ok,run_underlying L.und,a.run_size,y,K,Sem.run_pure]
def FE(s:Nat):Nat->List D->List (List D)
 |0,_=>[]
 |n+1,S=>S.take s::FE s n (S.drop s)
theorem Bp(s:Nat):∀(n:Nat) (S:List D),(FE s n S).length=n
 |0,_=>rfl
 |n+1,S=>by simp[FE,Bp s n]
theorem MS(s:Nat):∀(n:Nat) (S:List D) (k:Nat),k<n->(FE s n S).getD k []=(S.drop (k*s)).take s
 |0,_,k,h=>absurd h ZbG
 |n+1,S,0,_=>by simp[FE]
 |n+1,S,k+1,h=>by
  have:=MS s n (S.drop s) k ZbG;rw[Ydj]at this;simp only[FE,Ydo,this,YcZ];rw[Yda s]
theorem Quiet.buildSlice{len n b g Z:Nat}{d:TypeDesc}{parts:List (Nat×Operand)}{r:List (Nat×List D)}(e:o.op=.buildSlice t len parts.toArray)(L:Tab P t (.slice U) n b z)(a:Tab P U d g Z u)(f:0<len)(G:0<g)(S:u.cells.size=g)(xi:len*g<=16777216)(q:HO u.cells.toList=true)(V:PartsA hp arg parts r)(N:Hj (λi=>some (i*g,g)) (List.replicate (len*g) CC) r=some v):Quiet P hp o arg (.d (slD U g (FE g len v))):=by
 refine⟨λbase s X J c xd H h=>?_⟩;have A:=PartsA.rel (ev:=J) H V λp xk=>h p.2 (by rw[e];simp only[Op.operands,YdQ];exact Yca xk)
 have xe:IT s ((Array.range (len*g)).map (λj=>u.cells[j%u.cells.size]!)) (List.replicate (len*g) CC):=Zay
 obtain⟨xb,K,Y⟩:=Ld A xe N
 have xl:len*g≠0:=by
  have:=YcW f G;omega
 have y:(parts.toArray.map λp:Nat×Operand=>(p.1,J p.2)).toList=parts.map λp=>(p.1,J p.2):=by simp
 have T:(execOp J o).run P s.w=.ok (.value (.slice (some ⟨s.w.heap.size,0,none⟩) len len)) (s.w.alloc (.cells xb U)):=by
  have xn:∀arr,(newRow U arr).run P s.w=.ok ⟨s.w.heap.size,0,none⟩ (s.w.alloc (.cells arr U)):=λ_=>rfl;have xm:¬(len*g>2^24):=by omega
  simp only[execOp,e,Instr.buildSlice,Sem.run_bind,run_underlying L.und,Result.andThen_ok,a.run_size,Yai xm,Yai xl,a.run_zero,Sem.run_pure,y,K,xn]
 have Q:Ext s.w (s.w.alloc (.cells xb U)):=(Ext.refl _).alloc _;have R:=FG Q
 have I:v.length=len*g:=by
  have w:∀(l:List (Nat×List D)) (xf xh:List D),Hj (λi=>some (i*g,g)) xf l=some xh->xh.length=xf.length:=by
   intro l
   induction l with
   |nil=>intro xf xh h;cases h;rfl
   |cons p l m=>
    intro xf xh h;obtain⟨i,M⟩:=p;unfold Hj at h;simp only at h
    cases E:(Nat.beq M.length g&&Nat.ble (i*g+g) xf.length)with
    |false=>exact Zji
    |true=>
     rw[E]at h;exact Zja
  rw[w _ _ _ N];simp
 refine Jf T (s.grown (s.w.alloc (.cells xb U))) rfl ⟨R,_,len,by rw[Bp],by rw[Bp];exact Yah _,by have:=Nat.le_mul_of_pos_right len G;omega,λ_=>⟨s.w.heap.size,0,rfl,λk B=>?_⟩⟩;rw[Bp]at B
 have xj:k*g+g<=len*g:=by
  exact ZiV
 rw[MS _ _ _ _ B];refine⟨by simp;omega,xb,(0,0),heap_alloc_new s.w _,λj W=>?_⟩;have xg:j<g:=by simp at W;omega
 refine⟨.inr ⟨Yah _,by show _<(s.w.alloc _).heap.size;simp⟩,?_⟩;rw[Lk xg,IM,YaG];obtain⟨C,x,xa,xc⟩:=Y.2 (k*g+j) ZbG;exact⟨C,x,xa,(DM v _).st xc R.chg⟩
theorem Quiet.slice{e n b J Q T sz:Nat}{d:TypeDesc}{lo hi:Option Operand}{rows:List (List D)}{i j:Int}(V:o.op=.slice t x lo hi none)(E:HV hp (arg x)=some (slD T sz rows))(L:Tab P t (.slice e) n b z)(a:Tab P e d J Q u)(f:J=sz)(U:(∃y,lo=some y/\arg y=.d (ex (.int .i64 i)))\/(lo=none/\i=0))(xe:(∃y,hi=some y/\arg y=.d (ex (.int .i64 j)))\/(hi=none/\j=rows.length))(I:0<=i)(H:i<=j)(W:j<=rows.length):Quiet P hp o arg (.d (slD T sz ((rows.take j.toNat).drop i.toNat))):=by
 refine⟨λbase s X M S R m h=>?_⟩;obtain⟨A,c,G,q,B,K⟩:=Ex m (h x Zeg) E;subst f;obtain⟨i,rfl⟩:=YbH I;obtain⟨j,rfl⟩:=YbH (Yel I H);have xf:i<=j:=by omega
 have xd:j<=rows.length:=by omega
 have xi:∃xc,lo.map M=xc/\((xc=some (.int .i64 i))\/(xc=none/\i=0)):=by
  rcases U with⟨y,rfl,N⟩ | ⟨rfl,hi0⟩
  .exact Zaz
  .exact ZjH
 have xh:∃xa,hi.map M=xa/\((xa=some (.int .i64 j))\/(xa=none/\j=rows.length)):=by
  rcases xe with⟨y,rfl,N⟩ | ⟨rfl,hi0⟩
  .exact Zaz
  .exact ZjH
 obtain⟨xc,r,Y⟩:=xi;obtain⟨xa,v,l⟩:=xh;have xg:(j:Int)<=c:=by omega
 have xb:(i:Int)<=j:=by omega
 have F:(Instr.sliceBounds true rows.length c xc xa none).run P s.w=.ok (i,j,c) s.w:=by
  rcases Y with rfl | ⟨rfl,rfl⟩<;>rcases l with rfl | ⟨rfl,rfl⟩<;>simp[Instr.sliceBounds,Instr.sliceBound,asIntOf,xg,xb,xf,xd,q]
  all_goals first | omega | simp[xf,xd,q] | skip
 have w:(execOp M o).run P s.w=.ok (.value (.slice (if c=i then A else A.map (·.add (i*J))) (j-i) (c-i))) s.w:=by
  simp only[execOp,V,r,v,G,YeC,Instr.sliceAt,Sem.run_bind,run_underlying L.und,Result.andThen_ok,Instr.slice,F,a.run_size,Sem.run_pure]
 have Z:((rows.take (j:Int).toNat).drop (i:Int).toNat).length=j-i:=ZiB
 refine Cd w ⟨GS.Le.refl s,(if c=i then A else A.map (·.add (i*J))),c-i,by rw[Z],by rw[Z];omega,by omega,λhp=>?_⟩;rw[Z]at hp;obtain⟨g,p,rfl,O⟩:=K ZbG;refine⟨g,p+i*J,?_,λk C=>?_⟩
 .rw [Yai ZbG]
  simp[Addr.add_lit]
 .rw [Z]at C
  rw[show(j:Int).toNat=j from rfl,show(i:Int).toNat=i from rfl];rw[Uj,OH ZbG];have:=O (i+k) ZbG;exact Zjj
end
def AVle(G:List Ow)(m:Nat)(x y:AV):Prop:=∀base X s v,HpOk base X s G->AVr G.length X s x v->AVr m X s y v
theorem AVle.d{hp:List Ow}{m:Nat}{x y:D}(h:x=y):AVle hp m (.d x) (.d y):=λ_ _ _ _ _ r=>h▸r
theorem AVle.le{hp:List Ow}{m:Nat}{x y:D}(h:D.le x y):AVle hp m (.d x) (.d y):=λ_ _ s v _ r=>h s v r
theorem AVle.int{hp:List Ow}{m:Nat}{k:IntKind}{a b:Int}(h:a=b):AVle hp m (.d (ex (.int k a))) (.d (ex (.int k b))):=AVle.d (by rw[h])
theorem AVle.ptr{m i off:Nat}(h:Nat.blt i m=true):AVle H m (.ptr i off) (.ptr i off):=λ_ _ _ _ _ ⟨_,r⟩=>⟨by simpa[Ybh]using h,r⟩
theorem AVle.own{hp:List Ow}{m i:Nat}(h:Nat.blt i m=true):AVle hp m (.own i) (.own i):=λ_ _ _ _ _ ⟨_,r⟩=>⟨by simpa[Ybh]using h,r⟩
theorem BY{m:Nat}{f:FuncId}(h:l.all (Nat.blt · m)=true):AVle H m (.fn f l) (.fn f l):=λ_ _ _ _ _ ⟨_,r⟩=>⟨λi J=>by simpa[Ybh]using Yaj.1 h i J,r⟩
theorem Is{m i:Nat}(h:HV H (.own i)=some r)(I:D.le r vx):AVle H m (.own i) (.d vx):=λ_ _ s v A q=>I s v (Ex A q h)
theorem AM{T q:Nat}:D.le (ex (.slice none 0 0)) (slD T q []):=λs v h=>by
 have:v=.slice none 0 0:=h;subst this;exact slD.nil T q s
def FrLe(G:List Ow)(m:Nat)(e v:List (Nat×AV)):Prop:=∀p∈v,∃I,Ch e p.1=some I/\AVle G m I p.2
theorem FrLe.nil{hp:List Ow}{m:Nat}{e:List (Nat×AV)}:FrLe hp m e []:=λp hp=>by cases hp
theorem FrLe.cons{m:Nat}{e r:List (Nat×AV)}{t:Nat}{x y:AV}(h:Ch e t=some x)(I:AVle H m x y)(V:FrLe H m e r):FrLe H m e ((t,y)::r):=λp H=>by
 rcases YaM.1 H with rfl | H
 .exact ⟨x,h,I⟩
 .exact V p H
def OwLe(G:List Ow)(m:Nat):Ow->Ow->Prop
 |_,.dead=>True
 |.var T cells,.var o P=>T=o/\cells.length=P.length/\∀(k:Nat) y,P[k]? = some y->∃x,cells[k]? = some x/\AVle G m x y
 |.row T s A,.row o t u=>T=o/\s=t/\A=u
 |.obj O,.obj W=>O=W
 |.pin l,.pin J=>l.length=J.length/\∀(k:Nat) q,J[k]? = some q->∃p,l[k]? = some p/\p.1=q.1/\AVle G m p.2 q.2
 |_,_=>False
theorem OwLe.dead{m:Nat}{x:Ow}:OwLe H m x .dead:=by cases x<;>trivial
theorem OwLe.row{hp:List Ow}{m T sz:Nat}{r l:List (List D)}(h:r=l):OwLe hp m (.row T sz r) (.row T sz l):=⟨rfl,rfl,h⟩
theorem OwLe.obj{m:Nat}{O W:OD}(h:O=W):OwLe H m (.obj O) (.obj W):=h
theorem OwLe.pin{m:Nat}{l:List (Value×AV)}(h:∀p∈l,AVle H m p.2 p.2):OwLe H m (.pin l) (.pin l):=⟨rfl,λk q A=>⟨q,A,rfl,h q (YaB A)⟩⟩
theorem OwLe.var{m T:Nat}{c q:List AV}(I:c.length=q.length)(h:∀(k:Nat) y,q[k]? = some y->∃x,c[k]? = some x/\AVle H m x y):OwLe H m (.var T c) (.var T q):=⟨rfl,I,h⟩
theorem OwLe.varD{m T:Nat}{c q:List D}(h:c=q):OwLe H m (.var T (c.map .d)) (.var T (q.map .d)):=by
 subst h;refine⟨rfl,rfl,λk y N=>⟨y,N,?_⟩⟩;rw[Yau]at N
 cases B:c[k]? with
 |none=>rw[B]at N;cases N
 |some x=>rw[B]at N;cases N;exact AVle.d rfl
def HpLe(G:List Ow)(m:Nat):List Ow->List Ow->Prop
 |_,[]=>True
 |x::l,y::r=>OwLe G m x y/\HpLe G m l r
 |[],_::_=>False
theorem HpLe.nil{hp:List Ow}{m:Nat}{l:List Ow}:HpLe hp m l []:=by cases l<;>trivial
theorem HpLe.cons{m:Nat}{x y:Ow}{l r:List Ow}(h:OwLe H m x y)(V:HpLe H m l r):HpLe H m (x::l) (y::r):=⟨h,V⟩
theorem HpLe.get{G:List Ow}{m:Nat}:∀{l r:List Ow},HpLe G m l r->∀(i:Nat) y,r[i]? = some y->∃x,l[i]? = some x/\OwLe G m x y
 |_,[],_,i,y,h=>by cases h
 |[],_::_,h,_,_,_=>h.elim
 |x::l,y::r,⟨q,A⟩,0,z,h=>by cases h;exact⟨x,rfl,q⟩
 |x::l,y::r,⟨q,A⟩,i+1,z,h=>HpLe.get A i z Zdf
theorem Ac{σ τ:AS}(G:FrLe σ.hp τ.hp.length σ.fr τ.fr)(Z:HpLe σ.hp τ.hp.length σ.hp τ.hp):AS.le σ τ:=by
 intro N n a w ⟨s,X,c,h⟩
 have xb:∀(i:Nat) (M:Ow),τ.hp[i]? = some M->∀b,OwB s (X i) M b->∃o:Ow,σ.hp[i]? = some o/\OwB s (X i) o b:=λi M J b E=>by
  obtain⟨o,A,B⟩:=Z.get i M J;refine⟨o,A,?_⟩;cases o<;>cases M<;>first | exact B.elim | exact E.elim | exact E | (replace B:_=_:=B;subst B;exact E)
 refine⟨s,X,c,h.le,h.ok,λt V L=>?_,h.sz,h.df,λi M J=>?_,λi j o M v J W b E g=>?_,λi o b J E=>?_⟩
 .obtain ⟨xa,A,B⟩:=G _ (Ff L)
  exact B _ _ _ _ h.hp (h.fr t xa A)
 .obtain ⟨o,A,B⟩:=Z.get i M J
  have K:=h.hp i o A
  cases M with
  |dead=>trivial
  |var T cells=>
   cases o with
   |dead=>exact B.elim
   |row=>exact B.elim
   |obj=>exact B.elim
   |pin=>exact B.elim
   |var e xc=>
    obtain⟨rfl,Q,d⟩:=B;obtain⟨b,f,z,P,U,p4,p5,p6,p7⟩:=K;refine⟨b,f,z,P,U,p4.trans Q,p5,p6,λk V C=>?_⟩;obtain⟨x,r,m⟩:=d k V C;obtain⟨u,H,R,q5⟩:=p7 k x r;exact⟨u,H,R,m _ _ _ _ h.hp q5⟩
  |row T I S=>
   cases o with
   |dead=>exact B.elim
   |var=>exact B.elim
   |obj=>exact B.elim
   |pin=>exact B.elim
   |row e xe xd=>
    obtain⟨rfl,rfl,rfl⟩:=B;exact K
  |obj O=>
   cases o with
   |obj O0=>
    replace B:O0=O:=B;subst B;exact K
   |_=>exact B.elim
  |pin l=>
   cases o with
   |pin l0=>
    intro q F;obtain⟨k,C⟩:=YbL F;obtain⟨p,r,m,H⟩:=B.2 k q C;have:=H _ _ _ _ h.hp (K p (YaB r));rwa [m]at this
   |_=>exact B.elim
 .obtain ⟨x,A,B⟩:=xb i o J b E
  obtain⟨y,K,Y⟩:=xb j M W b g;exact h.sep i j x y v A K b B Y
 .obtain ⟨x,A,B⟩:=xb i o J b E
  exact h.own i x b A B
def params:Nat->List D->List (Nat×AV)
 |_,[]=>[]
 |i,d::S=>(i,.d d)::params (i+1) S
theorem KR:∀{S:List D} {i t:Nat} {I:AV},Ch (params i S) t=some I->i<=t/\t-i<S.length/\I=.d (DM S (t-i))
 |[],i,t,I,h=>by cases h
 |d::S,i,t,I,h=>by
  unfold params at h;rw[Da]at h;split at h
  .rename_i e
   subst e;cases h;exact⟨Yah _,by simp,by simp[DM]⟩
  .rename_i e
   obtain⟨q,A,K⟩:=KR h;refine⟨by omega,by simp;omega,?_⟩;rw[K,show t-i=(t-(i+1))+1 by omega];simp[DM]
def Fk(y:Array Value):ResultVar->Sem Value
 |.tmp t=>pure (y.getD t undef)
 |.cell a t=>do loadVar t (<-asAddr (y.getD a undef))
structure ResV(P:Program)(σ:AS)(rv:ResultVar)(x:D):Prop where
 run:∀(base:Nat) (ρ:Nat->Value) (s:GS) (tmps:Array Value),HpOk base ρ s σ.hp->(∀t av,Ch σ.fr t=some av->AVr σ.hp.length ρ s av (tmps.getD t undef))->∃v,(Fk tmps rv).run P s.w=.ok v s.w/\x.rel s v
theorem ResV.tmp{σ:AS}{t:Nat}{x:D}(h:Ch σ.fr t=some f)(C:HV σ.hp f=some x):ResV P σ (.tmp t) x:=⟨λbase X s y q A=>⟨_,rfl,Ex q (A t f h) C⟩⟩
theorem ResV.cell{σ:AS}{t T o n b id:Nat}{d:TypeDesc}(h:Ch σ.fr t=some (.ptr id 0))(N:σ.hp[id]? = some (.var o R))(L:Tab P T d n b z)(e:Fa d=true)(F:A0J σ.hp R=some v)(C:R.length=n):ResV P σ (.cell t T) (AQ v):=by
 refine⟨λbase X s r a l=>?_⟩;obtain⟨-,g,K,q⟩:=l t _ h;obtain⟨w,A,Y,E,J,M,y,S,Z⟩:=a id _ N;rw[K]at Y;cases Y;obtain⟨I,G⟩:=SR F;have Q:v.length=n:=by rw[<-I];exact C
 have key:∀j,∃u,j<n->s.w.cell? ⟨g,0+j,none⟩=some u/\u.oneCell'=true/\(DM v j).rel s u:=λj=>by
  by_cases W:j<n
  .have O:j<R.length:=by omega
   obtain⟨u,c,i,m⟩:=Z j _ (Yac O);refine⟨u,λ_=>⟨by rw[YaG];exact(Db J).trans c,i,?_⟩⟩;exact Ex a m (G j _ (Yac O))
  .exact ZjE
 obtain⟨f,p⟩:∃f:Nat->Value,∀j,j<n->s.w.cell? ⟨g,0+j,none⟩=some (f j)/\(f j).oneCell'=true/\(DM v j).rel s (f j):=⟨λj=>(key j).choose,λj W=>(key j).choose_spec W⟩;have V:=KL L e g 0 f λj W=>(p j W).1;refine⟨.agg ((List.range n).map f).toArray,?_,_,rfl,by simp[Q],λk B=>?_⟩
 .simp [Fk,q,asAddr,V]
 .rw [Q]at B
  exact⟨f k,by simp[B],(p k B).2⟩
structure Rets(P:Program)(σ:AS)(rs:Array ResultVar)(r:D):Prop where
 run:∀(base:Nat) (ρ:Nat->Value) (s:GS) (tmps:Array Value) (fn:Func),fn.results=rs->HpOk base ρ s σ.hp->(∀t av,Ch σ.fr t=some av->AVr σ.hp.length ρ s av (tmps.getD t undef))->∃v,(results fn tmps).run P s.w=.ok v s.w/\r.rel s v
theorem Mz{F q x:Type}(r:Result F)(f:F->World->Result q)(g:q->World->Result x):(r.andThen f).andThen g=r.andThen λa w=>(f a w).andThen g:=by cases r<;>rfl
theorem Um{rv:ResultVar}(h:vO.results=#[rv])(r:(Fk vE rv).run P w=.ok z w):(results vO vE).run P w=.ok z w:=by
 unfold results;rw[h]
 cases rv with
 |tmp t=>simp[Fk]at r ⊢;exact r
 |cell a T=>simp[Fk]at r ⊢;exact r
theorem A2W(h:vO.results=#[uH,uX])(r:(Fk vE uH).run P w=.ok z w)(m:(Fk vE uX).run P w=.ok u w):(results vO vE).run P w=.ok (.tuple #[z,u]) w:=by
 have key:(results vO vE).run P w=((Fk vE uH).run P w).andThen λa M=>((Fk vE uX).run P M).andThen λb N=>.ok (.tuple #[a,b]) N:=by
  unfold results;rw[h];cases uH<;>cases uX<;>simp[Fk,Mz]
 rw[key,r,Result.andThen_ok,m,Result.andThen_ok]
theorem Am{x r:D}(h:ResV P vf uH x)(I:D.le x r):Rets P vf #[uH] r:=⟨λbase X s y b p B C=>by
 obtain⟨v,q,A⟩:=h.run base X s y B C;exact⟨v,Um p q,I s v A⟩⟩
theorem Rets.of2(h:ResV P vf uH r)(V:ResV P vf uX vx)(I:D.le (Gb [r,vx]) up):Rets P vf #[uH,uX] up:=⟨λbase X s y E p C F=>by
 obtain⟨v,q,A⟩:=h.run base X s y C F;obtain⟨b,K,Y⟩:=V.run base X s y C F;refine⟨_,A2W p q K,I s _ ⟨_,rfl,rfl,λk B=>?_⟩⟩
 match k,B with
 |0,_=>exact⟨_,rfl,A⟩
 |1,_=>exact⟨_,rfl,Y⟩
 |k+2,B=>exact absurd B ZbV⟩
structure Fin(P:Program)(fn:Func)(r:D)(e:Exit)(σ:AS):Prop where
 how:e=.ret\/e=.normal
 res:Rets P σ fn.results r
theorem AA(h:Rets P vf vO.results r):Fin P vO r .ret vf:=⟨.inl rfl,h⟩
theorem Abs.intro{f:FuncId}{c:Code}{ds:List D}(p:P.funcs[f]? = some vO)(E:vO.body=some c)(g:∀args w,(callFunc f args).run P w=.ok (.enter f args) w)(C:Nat.ble ds.length vO.ntmps=true)
  (h:∀N,AWp P N vO.ntmps c (Fin P vO r) ⟨params 0 ds,[]⟩):Abs P f ds r:=by
 refine⟨g,λs W S I G=>calls_of_wp p E ?_⟩;have m:ds.length<=vO.ntmps:=by simpa[YdX]using C
 refine wp_mono ((h ⟨s,λ_=>False,[]⟩).run { tmps:=W.toArray++Array.replicate (vO.ntmps-W.toArray.size) undef,defers:=[] } s.w ⟨s,λ_=>undef,rfl,GS.LeX.refl _ s,S,λt V L=>?_,by simp;omega,rfl,(λi o J=>by cases J),(λi j o M _ J=>by cases J),(λi o b J=>by cases J)⟩) ?_
 .obtain ⟨_,A,K⟩:=KR L
  rw[Nat.sub_zero]at A K;subst K;have Y:=G t A;show(DM ds t).rel s ((W.toArray++Array.replicate (vO.ntmps-W.toArray.size) undef).getD t undef)
  have:(W.toArray++Array.replicate (vO.ntmps-W.toArray.size) undef).getD t undef=W.getD t undef:=by
   exact Zis
  rw[this];exact Y
 .intro e a w ⟨d,⟨B,Q⟩,F,X,Z,O⟩
  subst Z;obtain⟨v,q,A⟩:=Q.run _ X F a.tmps vO rfl O.hp O.fr;rcases B with rfl | rfl
  .exact ZjI
  .exact ZjI
inductive HR
 |av (r:AV)
 |new (T:TypeId) (cs:List Value)
def HR.val:HR->AV
 |.av r=>r
 |.new _ _=>.d CC
def DT(c:AS)(rs:List HR)(o:List (Nat×Nat)):Operand->AV
 |.tmp t=>match o.find? (λp=>p.1==t)with
  |some p=>match rs[p.2]? with
   |some h=>h.val
   |none=>.d CC
  |none=>(Ch c.fr t).getD (.d CC)
 |.global _=>.d CC
 |x=>c.arg x
def HStep(P:Program)(c:AS)(rs:List HR)(q:List (Nat×Nat))(o:Oper):HR->Prop
 |.av r=>(o.guard=none/\Quiet P c.hp o (DT c rs q) r)\/∃j b u,o.guard=some (j,b)/\rs[j]? = some (.av (.d (ex u)))/\((u=.bool b/\Quiet P c.hp o (DT c rs q) r)\/(u≠.bool b/\r=.d (ex undef)))
 |.new T f=>o.guard=none/\o.op=.alloc T/\T≠335/\HO f=true/\∃d n b z,Tab P T d n b z/\z.cells.toList=f
def HSteps(P:Program)(c:AS)(rs:List HR):List Oper->List (List (Nat×Nat))->List HR->Prop
 |o::L,x::S,r::T=>HStep P c rs x o r/\HSteps P c rs L S T
 |_,[],[]=>True
 |_,_,_=>False
theorem HSteps.nil{σ:AS}{rs:List HR}{L:List Oper}:HSteps P σ rs L [] []:=by cases L<;>trivial
theorem HStep.q{σ:AS}{rs:List HR}{r:AV}(T:va.guard=none)(h:Quiet P σ.hp va (DT σ rs vw) r):HStep P σ rs vw va (.av r):=.inl ⟨T,h⟩
variable{uq:List HR}
theorem Bb{j:Nat}{b:Bool}(T:va.guard=some (j,b))(W:uq[j]? = some (.av (.d (ex (.bool b)))))(h:Quiet P vf.hp va (DT vf uq vw) f):HStep P vf uq vw va (.av f):=.inr ⟨j,b,.bool b,T,W,.inl ⟨rfl,h⟩⟩
theorem A6H{j:Nat}(T:va.guard=some (j,o))(W:uq[j]? = some (.av (.d (ex z))))(B:isB z o=false):HStep P vf uq vw va (.av (.d (ex undef))):=.inr ⟨j,o,z,T,W,.inr ⟨A5G B,rfl⟩⟩
theorem HStep.n{σ:AS}{rs:List HR}{o:Oper}{T n b:Nat}{d:TypeDesc}(A:o.guard=none)(L:Tab P T d n b z)(E:o.op=.alloc T)(i:T≠335)(q:HO z.cells.toList=true):HStep P σ rs vw o (.new T z.cells.toList):=⟨A,E,i,q,d,n,b,z,L,rfl⟩
def AS.aft(c:AS):List Oper->List HR->AS
 |o::L,.av r::q=>AS.aft (c.put o.dst r) L q
 |o::L,.new T f::q=>AS.aft (c.new o.dst (.ptr c.hp.length 0) (.var T (ZL f))) L q
 |_,_=>c
def HFact(m:Nat)(ρ:Nat->Value)(W:Nat)(i:Nat):HR->Value->GS->Prop
 |.av r=>λv s=>AVr m ρ s r v
 |.new T f=>λv s=>∃b,v=.pointer (some ⟨b,0,none⟩)/\W<=b/\s.w.heap[b]? = some (.cells f.toArray T (0,0))/\(∀k,¬s.S b k)/\s.tag b=i+1/\T≠335/\HO f=true
theorem HFact.st{m:Nat}{ρ:Nat->Value}{W i:Nat}{r:HR}:RegG.Stab (HFact m ρ W i r):=λv s j I h=>by
 cases r with
 |av r=>exact AVr.chg h I.chg
 |new T f=>
  obtain⟨b,q,A,K,Y,n,C,E⟩:=h;exact⟨b,q,A,(I.ext.block (Bw K)).trans K,λk B=>Y k (I.old b k (Bw K) B),(I.tag b (Bw K)).trans n,C,E⟩
def facts(m:Nat)(ρ:Nat->Value)(W:Nat):Nat->List HR->List RegG.VFact
 |_,[]=>[]
 |i,r::c=>HFact m ρ W i r::facts m ρ W (i+1) c
theorem ND{m:Nat}{ρ:Nat->Value}{W:Nat}:∀{c:List HR} {i j:Nat} {r:HR},c[j]? = some r->(facts m ρ W i c)[j]? = some (HFact m ρ W (i+j) r)
 |[],i,j,r,h=>by cases h
 |x::c,i,0,r,h=>by cases h;rfl
 |x::c,i,j+1,r,h=>by
  have:=ND (m:=m) (ρ:=ρ) (W:=W) (i:=i+1) (by simpa using h:c[j]? = some r);simp only[facts,YcV,this];congr 2;omega
theorem SA{m:Nat}{X:Nat->Value}{W:Nat}:∀(c:List HR) (i:Nat),RegG.StabAll (facts m X W i c)
 |[],_=>trivial
 |_::c,i=>⟨HFact.st,SA c (i+1)⟩
theorem UA{m:Nat}{X:Nat->Value}{W:Nat}:∀(c:List HR) (i:Nat),(facts m X W i c).length=c.length
 |[],_=>rfl
 |_::c,i=>by simp[facts,UA c (i+1)]
theorem A0K{s0:An}{n:Nat}{s':GS}{m W:Nat}{ρ0:Nat->Value}{g:Nat->Value}:∀{L:List Oper} {rs:List HR} {i:Nat} {σ:AS} {a:Act} {ρ:Nat->Value},L.length=rs.length->StI s0 n σ a s' ρ->m<=σ.hp.length->(∀j,j<m->ρ j=ρ0 j)->s0.g.w.heap.size<=W ->
  (∀k o b,σ.hp[k]? = some o->OwB s' (ρ k) o b->b<W\/∃j,j<i/\s'.tag b=j+1)->(∀(j:Nat) r,rs[j]? = some r->HFact m ρ0 W (i+j) r (g (i+j)) s')->HI L L.length n=true->∃ρ',StI s0 n (σ.aft L rs) (Fw g L i a) s' ρ'
 | [],[],i,σ,a,ρ,_,h,_,_,_,_,_,_=>⟨ρ,h⟩
 | [],_::_,_,_,_,_,hl,_,_,_,_,_,_,_=>by simp at hl
 | _::_,[],_,_,_,_,hl,_,_,_,_,_,_,_=>by simp at hl
 | o::L,r::rs,i,σ,a,ρ,hl,h,hm,hρ,hW,hb,hf,hd=>by
  have hd1:∀d,o.dst=some d->d<n:=λd hdo=>by
   have h2:=Yaj.1 hd o (by simp)
   simp only [hdo,Yba] at h2
   exact h2
  have hd2:HI L L.length n=true:=Yaj.2 λx hx=>Yaj.1 hd x (by simp at hx ⊢;exact .inr hx)
  have hf0:=hf 0 r rfl
  rw [Ybi] at hf0
  have hf':∀(j:Nat) r',rs[j]? = some r'->HFact m ρ0 W (i+1+j) r' (g (i+1+j)) s':=λj r' hj=>by
   have:=hf (j+1) r' (by simpa using hj)
   rw [show i+(j+1)=i+1+j by omega] at this
   exact this
  cases r with
  | av r=>
   have h1:=h.put (GS.Le.refl s') hd1 (v:=g i) (r:=r) (hf0.mono hm hρ)
   refine A0K (L:=L) (rs:=rs) (i:=i+1) (by simpa using hl) h1 ?_ hρ hW ?_ hf' hd2
   .cases hdo:o.dst<;>exact hm
   .intro k o' b hk hv
    have hk':σ.hp[k]? = some o':=by cases hdo:o.dst<;>(rw [hdo] at hk;exact hk)
    rcases hb k o' b hk' hv with h2 | ⟨j,h2,h3⟩
    .exact .inl h2
    .exact .inr ⟨j,by omega,h3⟩
  | new T cs=>
   obtain ⟨b,e1,e2,e3,e4,e5,e6,e7⟩:=hf0
   have h1:=h.newG (GS.Le.refl s') hd1 (v:=g i) (u:=.pointer (some ⟨b,0,none⟩)) (r:=.ptr σ.hp.length 0) (ow:=.var T (ZL cs)) ⟨by omega,b,by simp,e1⟩ ?_ ?_ (λb' hb'=>by cases hb';exact .inr (Yat hW e2))
   .refine A0K (L:=L) (rs:=rs) (i:=i+1) (by simpa using hl) h1 (by show m<=(σ.hp++[_]).length; simp; omega) (λj hj=>by rw [Yai (by omega)]; exact hρ j hj) hW ?_ hf' hd2
    intro k o' b' hk hv
    replace hk:(σ.hp++[Ow.var T (ZL cs)])[k]? = some o':=hk
    rw [YaQ] at hk
    split at hk
    .rename_i hlt
     rw [Yai (by omega)] at hv
     rcases hb k o' b' hk hv with h2 | ⟨j,h2,h3⟩
     .exact .inl h2
     .exact .inr ⟨j,by omega,h3⟩
    .rename_i hge
     have:k=σ.hp.length:=by
      have:=Cs hk
      simp at this
      omega
     subst this
     rw [Yan rfl] at hv
     have ho:o' = .var T (ZL cs):=by simp at hk;exact hk.symm
     subst ho
     cases hv
     exact .inr ⟨i,by omega,e5⟩
   .refine ⟨b, cs.toArray, by simp, Yaw _, e3, by simp [ZL], e6, e4, λk av hk=>?_⟩
    unfold ZL at hk
    rw [Yau] at hk
    cases hz:cs[k]? with
    | none=>rw [hz] at hk;cases hk
    | some u=>
     rw [hz] at hk
     cases hk
     exact ⟨u,by simpa using hz,Yaj.1 e7 u (YaB hz),rfl⟩
   .intro b' hb' k o' hk hv
    cases hb'
    rcases hb k o' b hk hv with h2 | ⟨j,h2,h3⟩
    .omega
    .omega
structure DrawOk(P:Program)(s0:An)(n:Nat)(id:Nat)(L0:Array Oper)(L:List Oper)(Q0 Q:Exit->AS->Prop):Prop where
 run:∀(a:Act) (w:World),wpAny P .any L.toArray (GG s0 n Q) L.toArray.size (Array.replicate L.toArray.size false) a w.drew->(Code.region id L0 true).wp P (GG s0 n Q0) a w
theorem GD{s0:An}{n:Nat}{id:Nat}{L:List Oper}{Q:Exit->AS->Prop}(x:P.follows .mixedOrders=true):DrawOk P s0 n id L.toArray L Q Q:=⟨λ_ _ h=>wp_region_any x h⟩
theorem A6W{P:Program}{s0:An}{n:Nat}{Q Q0:Exit->AS->Prop}{σ:AS}{id:Nat}{L0:Array Oper}{L:List Oper}(hm:DrawOk P s0 n id L0 L Q0 Q)(es:List (List (Nat×Nat)))(bs:List (List Nat))(rs:List HR)(hlen:(es.length==bs.length&&es.length==rs.length&&Nat.ble rs.length L.length)=true)(hok:Eg L (Ge 0 es bs)=true)(hd:HI L es.length n=true)(steps:HSteps P σ rs L es rs)
  (tail:AWl P s0 n L.toArray Q (L.drop es.length) (σ.aft (L.take es.length) rs)):AWp P s0 n (.region id L0 true) Q0 σ:=by
 refine ⟨λa w ⟨s,ρ,hw,hst⟩=>?_⟩
 subst hw
 simp only [Yam,Ycw,YdX] at hlen
 obtain ⟨⟨hl1,hl2⟩,hl3⟩:=hlen
 refine RegG.wp_region_v (hm.run a s.w) es bs (facts σ.hp.length ρ s.w.heap.size 0 rs) (by rw [UA];simp [hl1,hl2];omega) hok (by rw [hst.sz];exact hd) (SA rs 0) ?_ λg s' hE hF=>?_
 .have hle0:GS.Le s s.dr:=Ka s
  have step:∀(o:Oper) (x:List (Nat×Nat)) (r:HR) (i:Nat),HStep P σ rs x o r->RegG.UStep P (facts σ.hp.length ρ s.w.heap.size 0 rs) a s.dr o x (HFact σ.hp.length ρ s.w.heap.size i r):=by
   intro o x r i hr s1 ev hE hk ha hc hf
   have hle:GS.Le s s1:=hle0.trans hE
   have hhp:=hst.hp.le hle
   have hok1:=hle.ok hst.ok
   have hbase:0<=s1.w.heap.size:=Yaw _
   have hknown:∀(x:List (Nat×Nat)),RegG.OpsKnown (facts σ.hp.length ρ s.w.heap.size 0 rs) ev s1 x->∀p∈x,∀F,(facts σ.hp.length ρ s.w.heap.size 0 rs)[p.2]? = some F->F (ev (.tmp p.1)) s1:=by
    intro x
    induction x with
    | nil=>intro _ p hp;cases hp
    | cons q x ih=>
     intro h p hp
     obtain ⟨t,j⟩:=q
     rcases YaM.1 hp with rfl | hp
     .exact h.1
     .exact ih h.2 p hp
   have hargs:∀y,y∈o.op.operands->AVr σ.hp.length ρ s1 (DT σ rs x y) (ev y):=by
    intro y _
    cases y with
    | tmp t=>
     show AVr _ ρ s1 (match x.find? (λp=>p.1==t) with
      | some p=>match rs[p.2]? with
       | some h=>h.val
       | none=>.d CC
      | none=>(Ch σ.fr t).getD (.d CC)) _
     cases hfd:x.find? (λp=>p.1==t) with
     | some p=>
      have hp:p∈x:=Ybt hfd
      have hpt:p.1=t:=by simpa using YcQ hfd
      simp only
      cases hrp:rs[p.2]? with
      | none=>trivial
      | some h=>
       have h1:=hknown x hk p hp _ (ND hrp)
       rw [hpt] at h1
       cases h with
       | av r=>exact h1
       | new T cs=>trivial
     | none=>
      simp only
      rw [ha t λp hp e=>by have:=Ycx.1 hfd p hp;simp [e] at this]
      exact (hst.arg (.tmp t)).chg hle.chg
    | const v=>show ev _=v;exact hc v
    | global b=>
     trivial
    | func f=>show ev _=_;exact hf f
   cases r with
   | av r=>
    rcases hr with ⟨hg,hq⟩ | ⟨j,b,c,hg,hj,hq⟩
    .rw [hg]
     exact hq.run _ s1 ρ ev hok1 hbase hhp hargs
    .rw [hg]
     intro gv hgv
     have h1:=hgv _ (ND hj)
     have e1:gv=c:=h1
     rcases hq with ⟨rfl,hq⟩ | ⟨hne,rfl⟩
     .exact ⟨λ_=>hq.run _ s1 ρ ev hok1 hbase hhp hargs,λh=>absurd e1 h⟩
     .exact ⟨λh=>by rw [e1] at h;exact absurd h hne,λ_=>rfl⟩
   | new T cs=>
    obtain ⟨hg,hop,hT,h1,d,k,b,z,ht,hz⟩:=hr
    rw [hg]
    subst hz
    have hrun:(execOp ev o).run P s1.w = .ok (.value (.pointer (some ⟨s1.w.heap.size,0,none⟩))) (s1.w.alloc (.cells z.cells T)):=by
     simp [execOp,hop,Instr.alloc,ht.run_zero,Iy]
    refine Jf hrun (s1.mk' z.cells T (i+1)) rfl ⟨s1.le_mk' z.cells T (i+1) hT,s1.w.heap.size,rfl,hle.ext.size,heap_alloc_new s1.w _,λk hk=>absurd (hok1.lt _ _ hk) (Ycf _),?_,hT,h1⟩
    show (if s1.w.heap.size=s1.w.heap.size then i+1 else _)=i+1
    rw [Yan rfl]
  have all:∀(L:List Oper) (es:List (List (Nat×Nat))) (T:List HR) (i:Nat),HSteps P σ rs L es T->RegG.USteps P (facts σ.hp.length ρ s.w.heap.size 0 rs) a s.dr L es (facts σ.hp.length ρ s.w.heap.size i T):=by
   intro L
   induction L with
   | nil=>
    intro es T i h
    cases es with
    | nil=>cases T with
     | nil=>trivial
     | cons=>exact h.elim
    | cons=>cases T<;>exact h.elim
   | cons o L ih=>
    intro es T i h
    cases es with
    | nil=>cases T with
     | nil=>trivial
     | cons=>exact h.elim
    | cons x es=>cases T with
     | nil=>exact h.elim
     | cons r T=>exact ⟨step o x r i h.1,ih es T (i+1) h.2⟩
  exact all L es rs 0 steps
 .have hle:GS.Le s s':=(Ka s).trans hE
  have hst':StI s0 n σ a s' ρ:=hst.put hle (dst:=none) (λd hd=>by cases hd) (v:=undef) (r:=.d CC) trivial
  have htl:(L.take es.length).length=rs.length:=by simp;omega
  obtain ⟨ρ',hfin⟩:=A0K (g:=g) (L:=L.take es.length) (rs:=rs) (i:=0) (W:=s.w.heap.size) (m:=σ.hp.length) (ρ0:=ρ) htl hst' (Yah _) (λ_ _=>rfl) hst.le.size (λk o b hk hv=>.inl ((hst.hp k o hk).blk_lt0 (OwB.le (hst.hp k o hk) hle hv))) (λj r hj=>by
   rw [YaG]
   have:=hF j _ (ND hj)
   rwa [YaG] at this) (by
   have:(L.take es.length).take (L.take es.length).length=L.take es.length:=YaT
   unfold HI
   rw [this]
   exact hd)
  exact tail.run _ _ ⟨s',ρ',rfl,hfin⟩
section
variable {P:Program} {s0:An} {n:Nat} {Q:Exit->AS->Prop} {σ:AS}
theorem Kx(h:uw σ):AThen uw Q .normal σ:=⟨h⟩
theorem Dr(h:Q .ret σ):AThen uw Q .ret σ:=⟨h⟩
theorem BD{i:Nat}(h:Q (.exit i) σ):AThen uw Q (.exit i) σ:=⟨h⟩
theorem Bi{i:Nat}(h:Q .normal σ):ABlock i Q .normal σ:=⟨h⟩
theorem DW{i:Nat}(h:Q .ret σ):ABlock i Q .ret σ:=⟨h⟩
theorem BI{i:Nat}(h:Q .normal σ):ABlock i Q (.exit i) σ:=⟨by
 show(if i=i then Q .normal σ else Q (.exit i) σ);rw[Yan rfl];exact h⟩
theorem ZG{i j:Nat}(B:Nat.beq j i=false)(h:Q (.exit j) σ):ABlock i Q (.exit j) σ:=⟨by
 show(if j=i then Q .normal σ else Q (.exit j) σ);rw[Yai (YaI B)];exact h⟩
theorem It{m:Nat}(h:Q .ret σ):ALoop uY m Q .ret σ:=⟨h⟩
theorem BS{m i:Nat}(h:Q (.exit i) σ):ALoop uY m Q (.exit i) σ:=⟨h⟩
theorem Ai{m:Nat}(q:Nat){τ:AS}(x:q<m)(W:uY q τ)(I:AS.le σ τ):ALoop uY m Q .normal σ:=⟨q,x,τ,W,I⟩
end
def flD(T:TypeId)(q:Nat)(B:List (List D)):D:=⟨λs v=>(slD T q B).rel s v/\∃A,v=.slice A B.length B.length,λh F=>⟨(slD T q B).st h.1 F,h.2⟩⟩
section
variable {P:Program} {hp:List Ow} {o:Oper} {arg:Operand->AV}
theorem WH{e n b I Q T M:Nat}{d:TypeDesc}(V:o.op=.slice t x none (some y) (some vS))(E:HV hp (arg x)=some (slD T M vm))(L:Tab P t (.slice e) n b z)(a:Tab P e d I Q u)(Z:I=M)(N:arg y=.d (ex (.int .i64 (vk:Nat))))(w:arg vS=.d (ex (.int .i64 (vk:Nat))))(W:vk<=vm.length):Quiet P hp o arg (.d (flD T M (vm.take vk))):=by
 refine⟨λbase s X i S v f h=>?_⟩;obtain⟨A,c,G,q,B,K⟩:=Ex f (h x Zeg) E;subst Z
 have r:i y=.int .i64 (vk:Nat):=by
  have:=h y Zeg;rw[N]at this;exact this
 have l:i vS=.int .i64 (vk:Nat):=by
  have:=h vS Zeg;rw[w]at this;exact this
 have H:(vk:Int)<=c:=by omega
 have F:(Instr.sliceBounds true vm.length c none (some (.int .i64 (vk:Nat))) (some (.int .i64 (vk:Nat)))).run P s.w=.ok (0,vk,vk) s.w:=by
  simp[Instr.sliceBounds,Instr.sliceBound,asIntOf,H]
 have j:(execOp i o).run P s.w=.ok (.value (.slice (if vk=0 then A else A.map (·.add (0*I))) (vk-0) (vk-0))) s.w:=by
  simp only[execOp,V,r,l,G,YeC,Ydt,Instr.sliceAt,Sem.run_bind,run_underlying L.und,Result.andThen_ok,Instr.slice,F,a.run_size,Sem.run_pure]
 have Y:(vm.take vk).length=vk:=ZiB
 have m:∀g p,A=some ⟨g,p,none⟩->(if vk=0 then A else A.map (·.add (0*I)))=some ⟨g,p,none⟩:=λg p e=>by
  rw[e];split<;>simp[Addr.add_lit]
 refine Cd j ⟨GS.Le.refl s,⟨_,vk-0,by rw[Y];rfl,by rw[Y];exact Yah _,by omega,λhp=>?_⟩,⟨_,by rw[Y];rfl⟩⟩;rw[Y]at hp;obtain⟨g,p,O,J⟩:=K ZbG;refine⟨g,p,m g p O,λk C=>?_⟩;rw[Y]at C;rw[OH C];exact J k ZbG
theorem A1a{t T T2 l bytes m b:Nat}{d:TypeDesc}(w:o.op=.call { callee:=.builtin .append,args:=#[x,y],argTypes:=#[t,t] })(G:arg x=.d (flD T l vm))(Q:HV hp (arg y)=some (slD T2 l ud))(N:Tab P t (.slice T) m b u)(hT:Tab P T d l bytes z)(xt:z.cells.size=l)(xj:(vm.length+ud.length)*bytes<=140737488355328)(xp:vm.length+ud.length<=4611686018427387904):Quiet P hp o arg (.d (slD T l (vm++ud))):=by
 refine⟨λbase s Y e v xh xd h=>?_⟩;have xn:=h x Zfk;rw[G]at xn;obtain⟨⟨A,c,Z,C,E,L⟩,⟨A',xB⟩⟩:=xn;obtain⟨B,c',r,R,h8,h9⟩:=Ex xd (h y Zfk) Q;rw[Z]at xB;simp only[Value.slice.injEq]at xB;obtain⟨_,_,rfl⟩:=xB;obtain⟨i,K,n,xu,xv⟩:=hT.info
 have xy:∀H O,(Builtin.append_ #[t,t] o.type #[e x,e y]).run P s.w=.ok H O->(execOp e o).run P s.w=.ok (.value H) O:=λH O W=>by
  simp only[execOp,w,resolve,invoke,builtin,Sem.run_bind,Sem.run_pure,Result.andThen_ok,YcK,Ybc,Ycj,W]
 rcases Yax ud.length with a | a
 .obtain rfl:ud=[]:=YaF a
  have W:(Builtin.append_ #[t,t] o.type #[e x,e y]).run P s.w=.ok (e x) s.w:=by
   rw[r,Z]
   cases B with
   |none=>exact run_append_nothing s.w _ _ _ _ i N.und K _ _ _ (Yah _) _ (Src.ofNil s.w N.und c')
   |some ad=>exact run_append_nothing s.w _ _ _ _ i N.und K _ _ _ (Yah _) _ (Src.ofSlice s.w N.und _ _ _ [] ZbV ZbV ZbV)
  refine Cd (xy _ _ W) ⟨GS.Le.refl s,?_⟩;rw[YbC];exact⟨A,_,Z,C,E,L⟩
 .obtain ⟨g,p,rfl,xc⟩:=h9 a
  obtain⟨xg,n1,n2,n3,n4⟩:=QM xc;have xr:∀j M,xg[j]? = some M->s.w.cell? ((⟨g,p,none⟩:Addr).add j)=some M:=λj M X=>by rw[Addr.add_lit];exact n2 j M X
  have xb:xg.length=ud.length*i.size:=by rw[n1,xu]
  subst xv
  obtain⟨U,x1,x4,x5⟩:∃U:List Value,U.length=vm.length*l/\(∀k j,k<vm.length->j<l->∃M,U[k*l+j]? = some M/\M.oneCell'=true/\(DM (vm.getD k []) j).rel s M)/\∃cap,vm.length+ud.length<=cap/\cap<=maxLen/\(Builtin.append_ #[t,t] o.type #[e x,e y]).run P s.w=.ok (.slice (some ⟨s.w.heap.size,0,none⟩) (vm.length+ud.length) cap) (s.w.drew.alloc (.cells (U.toArray++xg.toArray++Builtin.zeroCells z.cells (cap-(vm.length+ud.length))) T)):=by
   have xz:vm.length+ud.length<=maxLen:=Zjd
   have grow:∀(ad:Addr) (U:List Value),U.length=vm.length*i.size->(∀j M,U[j]? = some M->s.w.cell? (ad.add j)=some M)->A=some ad->(Builtin.append_ #[t,t] o.type #[e x,e y]).run P s.w=.ok (.slice (some ⟨s.w.heap.size,0,none⟩) (vm.length+ud.length) (grownCap s.w (vm.length+ud.length) vm.length T)) (s.w.drew.alloc (.cells (U.toArray++xg.toArray++Builtin.zeroCells z.cells (grownCap s.w (vm.length+ud.length) vm.length T-(vm.length+ud.length))) T)):=λad U xw xi hA=>by
    rw[Z,r,hA];exact run_append_grow (P:=P) s.w t o.type T i z N.und K n ad vm.length vm.length U xw xi ⟨g,p,none⟩ ud.length c' xg xb xr ZbG ZbG (growslice_fits ZbG xj)
   rcases Yax vm.length with k0 | k0
   .refine ⟨[], by rw [k0, YcD]; rfl, λk j F=>by omega, ?_⟩
    cases A with
    |none=>
     refine⟨grownCap s.w (vm.length+ud.length) 0 T,grownCap_ge _ _ _ _,grownCap_le_maxLen _ _ _ _ xz,?_⟩;have W:=run_append_nil (P:=P) s.w t o.type T i z N.und K n ⟨g,p,none⟩ ud.length c' xg xb xr a ZbG (by have I:=xj;rw[k0,YaG]at I;omega);rw[Z,r,k0];simpa using W
    |some ad=>exact⟨_,grownCap_ge _ _ _ _,grownCap_le_maxLen _ _ _ _ xz,grow ad [] (by rw[k0,YcD];rfl) (λj M X=>by cases X) rfl⟩
   .obtain ⟨g1,p1,rfl,xf⟩:=L k0
    obtain⟨U,m1,m2,m3,m4⟩:=QM xf;exact⟨U,m1,m4,_,grownCap_ge _ _ _ _,grownCap_le_maxLen _ _ _ _ xz,grow _ U (by rw[m1,xu]) (λj M X=>by rw[Addr.add_lit];exact m2 j M X) rfl⟩
  obtain⟨cap,xm,xl,W⟩:=x5;obtain⟨arr,xq⟩:∃arr,arr=U.toArray++xg.toArray++Builtin.zeroCells z.cells (cap-(vm.length+ud.length)):=⟨_,rfl⟩;rw[<-xq]at W;have V:Ext s.w (s.w.drew.alloc (.cells arr T)):=(Ext.refl _).drew.alloc _;have xe:=FG (s:=s) V;have xa:(s.w.drew.alloc (.cells arr T)).heap.size=s.w.heap.size+1:=Yec ..;have J:(vm++ud).length=vm.length+ud.length:=Yaa;refine Jf (xy _ _ W) (s.grown (s.w.drew.alloc (.cells arr T))) rfl ⟨xe,_,cap,by rw[J],by rw[J];exact xm,by simpa[maxLen]using xl,λ_=>⟨s.w.heap.size,0,rfl,λk F=>?_⟩⟩;rw[J]at F
  have xx:((vm++ud).getD k []).length=l/\∀j,j<l->∃M,arr[k*l+j]? = some M/\M.oneCell'=true/\(DM ((vm++ud).getD k []) j).rel s M:=by
   have xo:∀q M,(U++xg)[q]? = some M->arr[q]? = some M:=λq M f=>by
    have S:=(Yae.1 f).1;rw[xq,Ydg (by simpa using S)];simpa using f
   rw[KM];split
   .rename_i S
    have xA:(vm.getD k []).length=l:=by
     obtain⟨g1,p1,_,xf⟩:=L ZbG;exact(xf k S).1
    refine⟨xA,λj X=>?_⟩;obtain⟨M,a1,a2,a3⟩:=x4 k j S X;refine⟨M,xo _ _ ?_,a2,a3⟩;rw[Yav (Yae.1 a1).1];exact a1
   .rename_i xk
    refine⟨(xc (k-vm.length) ZbG).1,λj X=>?_⟩;obtain⟨M,a1,a2,a3⟩:=n4 (k-vm.length) j ZbG X;refine⟨M,xo _ _ ?_,a2,a3⟩;have e3:k*l=vm.length*l+(k-vm.length)*l:=ZiC
    rw[Yal ZbG,x1,<-a1];exact Zhe
  refine⟨xx.1,arr,(0,0),heap_alloc_new s.w.drew _,λj X=>?_⟩;rw[xx.1]at X;obtain⟨M,a1,a2,a3⟩:=xx.2 j X;exact⟨.inr ⟨Yah _,by rw[xa];omega⟩,M,by rw[YaG];exact a1,a2,(DM _ j).st a3 xe.chg⟩
theorem TO{len n b g Z:Nat}{d:TypeDesc}(e:o.op=.buildSlice t len ue.toArray)(L:Tab P t (.slice U) n b z)(a:Tab P U d g Z u)(f:0<len)(G:0<g)(S:u.cells.size=g)(xh:len*g<=16777216)(q:HO u.cells.toList=true)(V:PartsA hp arg ue uv)(N:Hj (λi=>some (i*g,g)) (List.replicate (len*g) CC) uv=some v):Quiet P hp o arg (.d (flD U g (FE g len v))):=by
 refine⟨λbase s X J c xc x h=>?_⟩;have A:=PartsA.rel (ev:=J) x V λp xj=>h p.2 (by rw[e];simp only[Op.operands,YdQ];exact Yca xj)
 have xd:IT s ((Array.range (len*g)).map (λj=>u.cells[j%u.cells.size]!)) (List.replicate (len*g) CC):=Zay
 obtain⟨xa,K,Y⟩:=Ld A xd N
 have xk:len*g≠0:=by
  have:=YcW f G;omega
 have y:(ue.toArray.map λp:Nat×Operand=>(p.1,J p.2)).toList=ue.map λp=>(p.1,J p.2):=by simp
 have R:(execOp J o).run P s.w=.ok (.value (.slice (some ⟨s.w.heap.size,0,none⟩) len len)) (s.w.alloc (.cells xa U)):=by
  have xm:∀arr,(newRow U arr).run P s.w=.ok ⟨s.w.heap.size,0,none⟩ (s.w.alloc (.cells arr U)):=λ_=>rfl;have xl:¬(len*g>2^24):=by omega
  simp only[execOp,e,Instr.buildSlice,Sem.run_bind,run_underlying L.und,Result.andThen_ok,a.run_size,Yai xl,Yai xk,a.run_zero,Sem.run_pure,y,K,xm]
 have Q:Ext s.w (s.w.alloc (.cells xa U)):=(Ext.refl _).alloc _;have H:=FG Q
 have I:v.length=len*g:=by
  have r:∀(l:List (Nat×List D)) (xe xg:List D),Hj (λi=>some (i*g,g)) xe l=some xg->xg.length=xe.length:=by
   intro l
   induction l with
   |nil=>intro xe xg h;cases h;rfl
   |cons p l m=>
    intro xe xg h;obtain⟨i,M⟩:=p;unfold Hj at h;simp only at h
    cases E:(Nat.beq M.length g&&Nat.ble (i*g+g) xe.length)with
    |false=>exact Zji
    |true=>
     rw[E]at h;exact Zja
  rw[r _ _ _ N];simp
 refine Jf R (s.grown (s.w.alloc (.cells xa U))) rfl ⟨H,⟨_,len,by rw[Bp],by rw[Bp];exact Yah _,by have:=Nat.le_mul_of_pos_right len G;omega,λ_=>⟨s.w.heap.size,0,rfl,λk B=>?_⟩⟩,⟨_,by rw[Bp]⟩⟩;rw[Bp]at B
 have xi:k*g+g<=len*g:=by
  exact ZiV
 rw[MS _ _ _ _ B];refine⟨by simp;omega,xa,(0,0),heap_alloc_new s.w _,λj W=>?_⟩;have xf:j<g:=by simp at W;omega
 refine⟨.inr ⟨Yah _,by show _<(s.w.alloc _).heap.size;simp⟩,?_⟩;rw[Lk xf,IM,YaG];obtain⟨C,w,T,xb⟩:=Y.2 (k*g+j) ZbG;exact⟨C,w,T,(DM v _).st xb H.chg⟩
end
end
