/- Part 20. No condition. -/
import Derived.Test.YtcikkglcoeedlaaGreatDm17
import Derived.Test.YtcikkglcoeedlaaGreatDm18
import Derived.Test.YtcikkglcoeedlaaGreatDm19
set_option linter.all false
set_option maxRecDepth 100000
set_option maxHeartbeats 1000000
namespace Go.Proofs.YtcikkglcoeedlaaGreat
open _root_.Go.Proofs.Tryz
variable{ve:AS}{h:AV}{vy:AV->List Ow->Prop}{vl:Act}{vO:Array Bool}{ua:Array Oper}{vt:Array TypeId}{vB:Array Value}{r:D}{vm:Exit->AS->Prop}{vd:FuncId}{a j:Int}{i:IntKind}{uH:List (List (Nat×Nat))}{vk ue:List (List D)}{vb:List (Nat×AV)}{vw:List (Nat×Nat)}{R:List AV}{v:List D}{vf:List Oper}{H:List Ow}{vc uj:List Tm}{b T:Nat}{vX xc:Nat->Bool}{vi vH:Nat->Int}{vh ub:Nat->Value}{va:Oper}{x y:Operand}{P:Program}{vJ xh:Prop}{vD uV:Rat}{e:Type}{d:TypeDesc}{t:TypeId}{z u:Value}{ug:e->List Nat}
section
open Go.RowKit
theorem XW{l:List e}{i:Nat}{x:e}(h:l[i]? = some x):l.set i x=l:=YbX λj=>by
 rw[YbM];split
 .rename_i q
  subst q;rw[Yao (Yae.1 h).1,h]
 .rfl
def Fz(f:Nat->Bool)(i:Nat):Nat->Bool:=λk=>Nat.beq k i||f k
def Hm(f:Nat->Bool)(V:List (Nat×Nat)):Nat->List AV->List AV
 |_,[]=>[]
 |i,r::I=>(bif V.any (λp=>Nat.beq p.1 i&&f p.2)then .d Cs else r)::Hm f V (i+1) I
theorem ND{f:Nat->Bool}{V:List (Nat×Nat)}:∀{i:Nat} {I:List AV} {j:Nat},(Hm f V i I)[j]? = (I[j]?).map λr=>bif V.any (λp=>Nat.beq p.1 (i+j)&&f p.2)then .d Cs else r
 |i,[],j=>by simp[Hm]
 |i,r::I,0=>by simp[Hm]
 |i,r::I,j+1=>by
  simp only[Hm,YcZ];rw[ND,show i+1+j=i+(j+1)by omega]
theorem JN{f:Nat->Bool}{j:Nat}(h:∀q∈vw,q.1=j->f q.2=false):(Hm f vw 0 R)[j]? = R[j]?:=by
 rw[ND,show vw.any (λp=>Nat.beq p.1 (0+j)&&f p.2)=false from List.any_eq_false.2 λq m E=>by
  simp only[Yam]at E;rw[h q m (by rw[Yan E.1,YaH])]at E;cases E.2]
 cases R[j]? <;> rfl
theorem A09{f:Nat->Bool}{j:Nat}{r:AV}(h:(Hm f vw 0 R)[j]? = some r):r=.d Cs\/(∀q∈vw,q.1=j->f q.2=false)/\R[j]? = some r:=by
 cases E:vw.any (λp=>Nat.beq p.1 (0+j)&&f p.2)with
 |true=>
  rw[ND,E]at h
  cases B:R[j]? with
  |none=>rw[B]at h;cases h
  |some x=>rw[B]at h;exact .inl (Yag h).symm
 |false=>
  have m:∀q∈vw,q.1=j->f q.2=false:=λq m e=>by
   have:=List.any_eq_false.1 E q m
   cases A:f q.2 with
   |false=>rfl
   |true=>rw[e,YaH,YcA,A]at this;exact absurd rfl this
  rw[JN m]at h;exact .inr ⟨m,h⟩
structure Can(L:List Oper)(f:Nat->Bool)(i:Nat)(o:Oper):Prop where
 no:f i=false
 ed:∀k∈Bw o,f k=true
 cl:∀j o',L[j]? = some o'->f j=true->∀k∈Bw o',f k=true
def XStep(P:Program)(s0:An)(n:Nat)(Q:Exit->AS->Prop)(L:List Oper)(w:List (Nat×AV))(I:(Nat->Bool)->Prop)(M:(Nat->Bool)->List Ow)(E:List (Nat×Nat))(B:List AV)(i:Nat)(z:List (Nat×Nat))(o:Oper)(r:AV):Prop:=BN o.op=true->∀f,Can L f i o->I f->∀F:List (Nat×AV),(∀p∈F,(∃j,f j=true/\(∀q∈E,q.1=j->Fz f i q.2=false)/\B[j]? = some p.2)\/p∈w)->∀(s:GS) (V:Nat->Value) (a:Act),StI s0 n ⟨F,M f⟩ a s V->(∀y∈o.op.operands,AVr (M f).length V s (DN ⟨w,M f⟩ ((Hm f E 0 B).map HR.av) z y) (a.eval y))->∀R:Act->World->Prop,(∀v A C,I (Fz f i)->StI s0 n ⟨F,M (Fz f i)⟩ a A C->AVr (M f).length C A r v->R (a.put o.dst v) A.w)->o.wp P a s.w R (GR s0 n Q)
def XSteps(P:Program)(s0:An)(n:Nat)(Q:Exit->AS->Prop)(s:List Oper)(w:List (Nat×AV))(I:(Nat->Bool)->Prop)(M:(Nat->Bool)->List Ow)(V:List (Nat×Nat))(q:List AV):Nat->List Oper->List (List (Nat×Nat))->List AV->Prop
 |i,o::L,x::S,r::R=>XStep P s0 n Q s w I M V q i x o r/\XSteps P s0 n Q s w I M V q (i+1) L S R
 |_,[],[],[]=>True
 |_,_,_,_=>False
section
variable {P:Program} {s0:An} {n:Nat} {Q:Exit->AS->Prop} {I:(Nat->Bool)->Prop} {LL:List Oper} {frB:List (Nat×AV)} {M:(Nat->Bool)->List Ow} {lose:List (Nat×Nat)} {ks:List AV}
theorem XSteps.at:∀{L:List Oper} {S:List (List (Nat×Nat))} {R:List AV} {j:Nat},XSteps P s0 n Q LL frB I M lose ks j L S R->∀(i:Nat) o x r,L[i]? = some o->S[i]? = some x->R[i]? = some r->XStep P s0 n Q LL frB I M lose ks (j+i) x o r
 |[],_,_,_,_,i,o,x,r,s,_,_=>by simp at s
 |_::_,[],_,_,_,i,o,x,r,_,C,_=>by simp at C
 |_::_,_::_,[],_,_,i,o,x,r,_,_,Y=>by simp at Y
 |B::L,N::S,E::R,j,⟨q,A⟩,0,o,x,r,s,C,Y=>by
  simp at s C Y;subst s;subst C;subst Y;exact q
 |B::L,N::S,E::R,j,⟨q,A⟩,i+1,o,x,r,s,C,Y=>by
  have:=XSteps.at A i o x r ZdQ ZeA (by simpa using Y);exact Zkp
theorem PJ(h:XSteps P s0 n Q LL frB I M lose ks 0 vf uH R):∀(i:Nat) o x r,vf[i]? = some o->uH[i]? = some x->R[i]? = some r->XStep P s0 n Q LL frB I M lose ks i x o r:=λi o x r q A K=>by
 have:=h.at i o x r q A K;rwa [YaH]at this
variable {i:Nat} {o:Oper} {L:List Oper} {x:List (Nat×Nat)} {S:List (List (Nat×Nat))} {r:AV} {R:List AV}
theorem XSteps.nil:XSteps P s0 n Q LL frB I M lose ks i [] [] []:=trivial
theorem XStep.q(m:∀f,Can LL f i o->I f->I (Fz f i))(C:∀f,M (Fz f i)=M f)(h:∀f,Can LL f i o->Quiet P (M f) o (DN ⟨frB,M f⟩ ((Hm f lose 0 ks).map HR.av) x) r):XStep P s0 n Q LL frB I M lose ks i x o r:=λJ f G p F _ s V a u t R E=>by
 rw[C]at E;exact RegG.opStep_wp J (λ_ _=>rfl) ((h f G).run 0 s V a.eval u.ok (Yay _) u.hp t) λv j ⟨q,A⟩=>E v j V (m f G p) (u.put q (dst:=none) (λd B=>by cases B) (v:=v) (r:=.d Cs) trivial) A
def XTurn(P:Program)(s0:An)(n:Nat)(LL:List Oper)(frB:List (Nat×AV))(M:(Nat->Bool)->List Ow)(lose:List (Nat×Nat))(ks:List AV)(i:Nat)(x:List (Nat×Nat))(o:Oper)(r:AV):Prop:=∀f,Can LL f i o->∀F:List (Nat×AV),(∀p∈F,(∃j,f j=true/\(∀q∈lose,q.1=j->Fz f i q.2=false)/\ks[j]? = some p.2)\/p∈frB)->∀(s:GS) (V:Nat->Value) (a:Act),StI s0 n ⟨F,M f⟩ a s V->(∀y∈o.op.operands,AVr (M f).length V s (DN ⟨frB,M f⟩ ((Hm f lose 0 ks).map HR.av) x y) (a.eval y))->RegG.OpStep P o a.eval s λv A=>∃B,StI s0 n ⟨F,M (Fz f i)⟩ a A B/\AVr (M f).length B A r v
theorem XTurn.step(h:XTurn P s0 n LL frB M lose ks i x o r)(m:∀f,Can LL f i o->I f->I (Fz f i)):XStep P s0 n Q LL frB I M lose ks i x o r:=λJ f G p F hF s V a u t R E=>RegG.opStep_wp J (λ_ _=>rfl) (h f G F hF s V a u t) λv j ⟨B,q,A⟩=>E v j B (m f G p) q A
theorem Gb(h:∀f,Can LL f i o->Quiet P (M f) o (DN ⟨frB,M f⟩ ((Hm f lose 0 ks).map HR.av) x) r)(a:XSteps P s0 n Q LL frB (λ_=>True) M lose ks (i+1) L S R)(q:∀f,M (Fz f i)=M f:=by exact λ_=>rfl):XSteps P s0 n Q LL frB (λ_=>True) M lose ks i (o::L) (x::S) (r::R):=⟨XStep.q (λ_ _ h=>h) q h,a⟩
theorem Ds(a:XSteps P s0 n Q LL frB (λ_=>True) M lose ks (i+1) L S R)(h:∀f,Can LL f i o->Quiet P (M f) o (DN ⟨frB,M f⟩ ((Hm f lose 0 ks).map HR.av) x) r:=by intro _ _;first | exact AG (ah rfl) | exact Az (ah rfl) (Aa rfl) rfl (Aa rfl) rfl rfl | exact AF | exact As)(q:∀f,M (Fz f i)=M f:=by exact λ_=>rfl):XSteps P s0 n Q LL frB (λ_=>True) M lose ks i (o::L) (x::S) (r::R):=Gb h a q
theorem StI.turn1{id T sz:Nat}{s j:GS}(hst:StI s0 n ⟨vb,H⟩ vl s vh)(y:H[id]? = some (.row T sz vk))(F:∀p∈vb,p.2.avoid [id]=true)(Z:AvoidR [id] [id] 0 H)(K:Aft s (λq=>vh (BL [id] H.length q)) [.row T sz vk] [0] j ub [.row T sz ue])(A:AVr 1 ub j (.own 0) z):∃a,StI s0 n ⟨vb,H.set id (.row T sz ue)⟩ vl j a/\AVr H.length a j (.own id) z:=by
 obtain⟨a,G,J⟩:=StI.con (sel:=[id]) (lost:=[0]) (hpS:=[.row T sz vk]) (hp':=[.row T sz ue]) (H1:=H.set id (.row T sz ue)) ⟨F,λg C N E=>AvoidR.get Z g C (by simpa using N) E⟩ (λk B=>by rw[Yax.1 B];exact YcV) hst ZbR ⟨y,trivial,trivial⟩ K rfl;simp only[Yck,Ybn,List.drop_nil,YaW,Ycb,YbD]at G J;have:=J _ z A;rw[YbL]at this;exact⟨a,G,this⟩
def depO(L:List Oper)(i:Nat):Nat->Nat->Bool
 |0,_=>false
 |n+1,j=>match L[j]? with
  |some q=>(Bw q).any λk=>Nat.beq k i||depO L i n k
  |none=>false
theorem KJ{f:Nat->Bool}(G:Can LL f i o){l:Nat}:∀(n j:Nat),depO LL l n j=true->f j=true->f l=true
 |0,_,h,_=>by cases h
 |n+1,j,h,X=>by
  unfold depO at h
  cases s:LL[j]? with
  |none=>rw[s]at h;cases h
  |some A=>
   rw[s]at h;obtain⟨k,B,q⟩:=YbF.1 h;have J:=G.cl j A s X k B;simp only[YaT]at q;rcases q with q | q
   .rwa [Yan q]at J
   .exact KJ G n k q J
def avX(L:List Oper)(o:Oper)(lose:List (Nat×Nat))(ks:List AV)(frB:List (Nat×AV))(i id:Nat):Bool:=(ks.zipIdx.all λp=>Nat.beq p.2 i||lose.any (λq=>Nat.beq q.1 p.2&&(Nat.beq q.2 i||(Bw o).any λk=>Nat.beq k q.2||depO L q.2 4 k))||depO L i 4 p.2||p.1.avoid [id])&&frB.all λp=>p.2.avoid [id]
theorem A6I{id:Nat}(h:avX LL o lose ks frB i id=true){f:Nat->Bool}(G:Can LL f i o)(hF:∀p∈vb,(∃j,f j=true/\(∀q∈lose,q.1=j->Fz f i q.2=false)/\ks[j]? = some p.2)\/p∈frB):∀p∈vb,p.2.avoid [id]=true:=λp F=>by
 unfold avX at h;simp only[Yam]at h;rcases hF p F with⟨j,X,E,C⟩ | hb
 .have A:=Yah.1 h.1 (p.2, j) (by rw [YbQ]; exact C)
  simp only[YaT]at A;rcases A with((A | A) | A) | A
  .have:=G.no
   rw[<-Yan A,X]at this;cases this
  .obtain ⟨q,m,B⟩:=YbF.1 A
   simp only[Yam]at B;have:=E q m (Yan B.1);unfold Fz at this;rcases(YaT _ _).mp B.2 with K | K
   .rw [K]at this
    cases this
   .obtain ⟨k,C,J⟩:=YbF.1 K
    have V:=G.ed k C
    have O:f q.2=true:=by
     rcases(YaT _ _).mp J with N | N
     .rwa [Yan N]at V
     .exact KJ G 4 k N V
    rw[O,Bool.or_true]at this;cases this
  .have:=KJ G 4 j A X
   exact Zic
  .exact A
 .exact Yah.1 h.2 p hb
theorem XTurn.m{id t T sz m b bytes:Nat}(N:o.op=.buildSlice t 0 #[])(C:Tab P t (.slice T) m b u)(e:Tab P T d sz bytes z)(w:Nat.beq T 335=false)(c:Nat.blt 0 sz=true)(Y:r=.own id)(W:∀f,Can LL f i o->(M f)[id]? = some (.row T sz [])/\M (Fz f i)=M f)(h:avX LL o lose ks frB i id=true)(Z:∀f,AvoidR [id] [id] 0 (M f)):XTurn P s0 n LL frB M lose ks i x o r:=λf G F hF s V a K J=>by
 subst Y;obtain⟨A,B⟩:=W f G;rw[B];obtain⟨j,p,O,E,y⟩:=A5Y (sz:=sz) K.ok (λq=>V (BL [id] (M f).length q)) (YaJ w) ZeK
 have X:(execOp a.eval o).run P s.w=.ok (.value (.slice (some ⟨s.w.heap.size,0,none⟩) 0 0)) (s.w.alloc (.cells #[] T)):=by
  have g:∀arr,(newRow T arr).run P s.w=.ok ⟨s.w.heap.size,0,none⟩ (s.w.alloc (.cells arr T)):=λ_=>rfl;simp[execOp,N,Instr.buildSlice,run_underlying C.und,e.run_size,Instr.fill,g];exact ZhF
 unfold RegG.OpStep;rw[X];obtain⟨v,k,l⟩:=K.turn1 A (A6I h G hF) (Z f) y ⟨YcV,E.symm⟩;rw[XW A]at k;exact⟨j,O,v,k,l⟩
end
theorem blt_eq{f:Nat->Bool}(m:Nat)(h:∀k,k<m->f k=true)(g:∀k,m<=k->f k=false):f=(Nat.blt · m):=funext λk=>by
 cases E:Nat.blt k m with
 |true=>exact h k (by rwa [Ybq]at E)
 |false=>
  refine g k (Nat.le_of_not_lt λh=>?_);rw[<-Ybq,E]at h;cases h
structure XInv(s0:An)(n len:Nat)(M:(Nat->Bool)->List Ow)(lose:List (Nat×Nat))(L:List Oper)(ks:List AV)(frB:List (Nat×AV))(f:Nat->Bool)(a:Act)(s:GS)(ρ:Nat->Value):Prop where
 st:StI s0 n ⟨[],M f⟩ a s ρ
 hq:∀i o d r,L[i]? = some o->o.dst=some d->(Hm f lose 0 ks)[i]? = some r->f i=true->AVr len ρ s r (a.tmps.getD d undef)
 hb:∀p∈frB,AVr len ρ s p.2 (a.tmps.getD p.1 undef)
theorem Ks{s0:An}{n:Nat}{L:List Oper}(I:(Nat->Bool)->Prop)(m:Nat)(xB:List Nat)(M:(Nat->Bool)->List Ow)(xk:List (Nat×Nat))(ks:List AV)(xf F:List (Nat×AV))(hm:DrawOk P s0 n b ua L vm vm)(xJ:FrIn vb xf)(hL:Nat.blt m L.length=true)(hI:I λ_=>false)(yf:M (λ_=>false)=H)(xV:∀f,(M f).length=H.length)(xQ:I (Nat.blt · m)->((List.range (L.length-m)).all λt=>(match L[m+t]? with | some o=>Bw o | none=>[]).all λk=>decide (k<m+t))=true)(xY:((List.range (L.length-m-1)).all λt=>(match L[m+t+1]? with | some o=>Bw o | none=>[]).contains (m+t))=true)(xK:(MZ L [m] xB&&(List.range m).all λj=>xB.contains j)=true)
  (steps:∀i o x r,(L.take m)[i]? = some o->(Ho (L.take m))[i]? = some x->ks[i]? = some r->XStep P s0 n vm L xf I M xk ks i x o r) (xc:Zh (L.take m) (Ho (L.take m)) ks xf n=true) (hF:FrIn (QQ (L.take m) (Hm (Nat.blt · m) xk 0 ks) xf) F) (fin:I (Nat.blt · m)->AWl P s0 n L.toArray vm (L.drop m) ⟨F,M (Nat.blt · m)⟩):AWp P s0 n (.region b ua true) vm ⟨vb,H⟩:=by
 generalize Ho (L.take m)=es at steps xc;refine⟨λa w ⟨s,V,hw,U⟩=>?_⟩;subst hw;have xW:=xJ.mem;obtain⟨ys,xs,xz⟩:=A8E xc;have yI:m<L.length:=by rwa [Ybq]at hL
 have yr:I (Nat.blt · m)->∀k o,m<=k->L[k]? = some o->∀j∈Bw o,j<k:=λZ k o E T j X=>by
  have xO:=(Yae.1 T).1;have B:=Yah.1 (xQ Z) (k-m) (Ybd.2 ZbC);rw[show m+(k-m)=k by omega,T]at B;simpa using Yah.1 B j X
 have yv:∀k o,m<k->L[k]? = some o->k-1∈Bw o:=λk o E T=>by
  have xO:=(Yae.1 T).1;have B:=Yah.1 xY (k-1-m) (Ybd.2 ZbC);rw[show m+(k-1-m)+1=k by omega,show m+(k-1-m)=k-1 by omega,T]at B;exact Ybv.1 B
 have yH:(L.take m).length=m:=ZgV
 simp only[Yam]at xK
 have yG:∀{i:Nat} {o:Oper},(L.take m)[i]? = some o->L[i]? = some o:=λ{i o} h=>by
  rw[YaK]at h;split at h
  .exact h
  .cases h
 have xp:∀j,(Array.replicate L.toArray.size false).getD j false=false:=λj=>Zai
 have xM:(λk=>(Array.replicate L.toArray.size false).getD k false)=λ_=>false:=funext xp;have yd:StI s0 n ⟨vb,H⟩ a s.dr V:=U.put (Kq s) (dst:=none) (λd l=>by cases l) (v:=undef) (r:=.d Cs) trivial;refine hm.run _ _ (OU (λxb a' Q=>(∃u xg,u.w=Q/\(∀k,m<=k->xb.getD k false=false)/\(∀i o,L[i]? = some o->xb.getD i false=true->∀e∈Bw o,xb.getD e false=true)/\I (λk=>xb.getD k false)/\XInv s0 n H.length M xk (L.take m) ks xf (λk=>xb.getD k false) a' u xg)\/(∃t,m<=t/\t<=L.length/\I (Nat.blt · m)/\(∀i,i<t->xb.getD i false=true)/\(∀i,t<=i->xb.getD i false=false)/\wpList P L.toArray (GR s0 n vm) (L.drop t) a' Q)) ?_ ?_ _ _ a s.w.drew ZbR ?_ (.inl ⟨s.dr,V,rfl,λk _=>xp k,(λi o _ h=>absurd (h.symm.trans (xp _)) ZbH),by rw[xM];exact hI,by rw[xM,yf];exact yd.bare,(λi o d r _ _ _ h=>absurd (h.symm.trans (xp _)) ZbH),(λp xa=>yd.fr _ _ (xW p xa))⟩))
 .intro xb a' w1 i xe hI K
  rcases hI with⟨s1,xx,rfl,xU,yb,xZ,xd⟩ | ⟨t,htm,htl,hIm,hall,hnone,hrest⟩
  rotate_left
  .have xe:xb.size=L.length:=by simpa using xe
   obtain⟨_,o,T,_⟩:=mem_ready.1 K;have T:L[i]? = some o:=by simpa using T
   have xN:=(Yae.1 T).1;obtain⟨xq,xn⟩:=(DH xe T).1 K
   have xw:t<=i:=by
    rcases YaI i t with h | h
    .rw [hall i h]at xq;cases xq
    .exact h
   have yC:i=t:=by
    rcases Nat.lt_or_eq_of_le xw with h | h
    .have B:=xn _ (yv i o ZbC T)
     rw[hnone (i-1) ZbC]at B;cases B
    .exact h.symm
   subst yC
   have yy:L.drop i=o::L.drop (i+1):=by
    rw[Ycs xN];congr 1;have:=Yab xN;rw[T]at this;exact(Yag this).symm
   rw[yy]at hrest
   have ym:wpOp P L.toArray (GR s0 n vm) i (λxI xr=>wpList P L.toArray (GR s0 n vm) (L.drop (i+1)) xI xr) a' w1:=by
    unfold wpOp;rw[show L.toArray[i]? = some o by simpa using T];exact hrest
   refine wpOp_mono (λxI xr h=>.inr ⟨i+1,by omega,by omega,hIm,λk E=>?_,λk E=>?_,h⟩) ym
   .by_cases e:k=i
    .subst e;simp[show k<xb.size by omega]
    .rw [getD_set_ne false (λe'=>e e'.symm)]
     exact hall k ZbC
   .rw [getD_set_ne false ZbC]
    exact hnone k ZbC
  have xe:xb.size=L.length:=by simpa using xe
  obtain⟨_,o,T,_⟩:=mem_ready.1 K;have T:L[i]? = some o:=by simpa using T
  obtain⟨xq,xn⟩:=(DH xe T).1 K
  have yo:∀(i:Nat),i<L.length->∀k,(xb.setIfInBounds i true).getD k false=true↔k=i\/xb.getD k false=true:=λi K k=>by
   by_cases E:k=i
   .subst E;simp[show k<xb.size by omega]
   .exact ZaP
  have yx:∀i' o',L[i']? = some o'->(xb.setIfInBounds i true).getD i' false=true->∀e∈Bw o',(xb.setIfInBounds i true).getD e false=true:=λi' o' xj J e' xu=>by
   have xN:=(Yae.1 T).1;rw[yo i xN]at J ⊢;rcases J with rfl | J
   .obtain rfl:o'=o:=Yag (xj.symm.trans T)
    exact .inr (xn e' xu)
   .exact .inr (yb i' o' xj J e' xu)
  have yJ:i<=m:=by
   rcases YaI m i with h | h
   .have B:=xn _ (yv i o h T)
    rw[xU (i-1) ZbC]at B;cases B
   .exact h
  by_cases yq:i=m
  .subst yq
   have xX:=Mo (L:=L) (f:=λk=>xb.getD k false) xK.1 yb (λk E o' xj e S=>by
    obtain rfl:k=i:=by simpa using E
    obtain rfl:o'=o:=Yag (xj.symm.trans T);exact xn e S)
   have ya:∀k,k<i->xb.getD k false=true:=λk E=>xX k (by simpa using Yah.1 xK.2 k (Ybd.2 E));have U:=xd.st;have yh:(λk=>xb.getD k false)=(Nat.blt · i):=blt_eq i ya xU;rw[yh]at U xZ;have yu:=xd.hq;rw[yh]at yu
   have yE:St s0 n ⟨F,M (Nat.blt · i)⟩ a' s1.w:=⟨s1,xx,rfl,U.le,U.ok,λt av N=>by
    rw[show(⟨F,M (Nat.blt · i)⟩:AS).hp.length=H.length from xV _];rcases YU (Fj (hF.mem _ (Fj N)))with h | ⟨i',o',B,C,h3⟩
    .exact xd.hb _ h
    .exact yu i' o' t av B h3 C (ya i' (by have:=(Yae.1 B).1;omega)),U.sz,U.df,U.hp,U.sep,U.own⟩
   have xN:=(Yae.1 T).1
   have yz:L.drop i=o::L.drop (i+1):=by
    rw[Ycs xN];congr 1;have:=Yab xN;rw[T]at this;exact(Yag this).symm
   have xm:=(fin xZ).run a' s1.w yE;rw[yz]at xm
   have ym:wpOp P L.toArray (GR s0 n vm) i (λxI xr=>wpList P L.toArray (GR s0 n vm) (L.drop (i+1)) xI xr) a' s1.w:=by
    unfold wpOp;rw[show L.toArray[i]? = some o by simpa using T];exact xm
   refine wpOp_mono (λxI xr h=>.inr ⟨i+1,by omega,by omega,xZ,λk E=>?_,λk E=>?_,h⟩) ym
   .rw [yo i ZbC]
    rcases YaI k i with h | h
    .exact .inr (ya k h)
    .exact .inl ZbC
   .rw [getD_set_ne false ZbC]
    exact xU k ZbC
  have yB:i<m:=by omega
  have yc:(L.take m)[i]? = some o:=by rw[YaK,Yao yB];exact T
  obtain⟨e,r,d,S,Y,ck⟩:=xz i o yc;have xN:i<xb.size:=by rw[xe];exact(Yae.1 T).1
  have xA:=steps i o e r yc S Y;have xE:L.toArray[i]? = some o:=by simpa using T
  have xG:d<a'.tmps.size:=by rw[xd.st.sz];exact ck.dn
  have xv:∀k,(xb.setIfInBounds i true).getD k false=true↔k=i\/xb.getD k false=true:=λk=>by
   by_cases E:k=i
   .subst E;simp[xN]
   .exact ZaP
  have xh:∀i' o' d',(L.take m)[i']? = some o'->o'.dst=some d'->xb.getD i' false=true->d'≠d:=λi' o' d' xj xl J e'=>by
   subst e';have:=ck.du i' o' xj xl;subst this;rw[xq]at J;cases J
  have yj:∀p∈xf,p.1≠d:=λp xa e'=>xs p xa o (Yaz yc) (by rw[e'];exact ck.dst)
  have yi:∀(R:Act->World->Prop),o.wp P a' s1.w (λxI xr=>R xI xr) (GR s0 n vm)->wpOp P L.toArray (GR s0 n vm) i (λxI xr=>R xI xr) a' s1.w:=λR h=>by
   unfold wpOp;rw[xE];show if Region.wanted o (yielded L.toArray a'.tmps)=true then _ else _
   exact Zjh
  have xL:∀y,Qk (L.take m) e y=true->AVr H.length xx s1 (DN ⟨xf,M (λk=>xb.getD k false)⟩ ((Hm (λk=>xb.getD k false) xk 0 ks).map HR.av) e y) (a'.eval y):=λy O=>by
   cases y with
   |tmp t=>
    show AVr _ xx s1 (match e.find? (λp=>p.1==t)with
     |some p=>match ((Hm (λk=>xb.getD k false) xk 0 ks).map HR.av)[p.2]? with
      |some h=>h.val
      |none=>.d Cs
     |none=>(Ce xf t).getD (.d Cs)) (a'.tmps.getD t undef)
    cases yg:e.find? (λp=>p.1==t)with
    |some p=>
     have xa:p∈e:=Ybp yg;have xD:p.1=t:=by simpa using YcJ yg
     simp only;rw[Yav]
     cases xP:(Hm (λk=>xb.getD k false) xk 0 ks)[p.2]? with
     |none=>trivial
     |some r'=>
      obtain⟨xH,o',xj,xl⟩:=ck.env p xa;have:=xd.hq p.2 o' p.1 r' xj xl xP (xn _ xH);rwa [xD]at this
    |none=>
     simp only
     cases J:Ce xf t with
     |none=>trivial
     |some av=>exact xd.hb (t,av) (Fj J)
   |const v=>exact Zkn
   |global A=>trivial
   |func f=>exact Zko
  have yF:(λk=>xb.getD k false) i=false:=xq
  have yh:(λk=>(xb.setIfInBounds i true).getD k false)=Fz (λk=>xb.getD k false) i:=funext λk=>by
   unfold Fz
   cases G:Nat.beq k i with
   |true=>rw[Yan G];exact(xv i).2 (.inl rfl)
   |false=>exact getD_set_ne false (λe=>YaJ G e.symm)
  generalize yA:(λk=>xb.getD k false)=f at *;have xS:∀k,xb.getD k false=f k:=λk=>by rw[<-yA]
  have yw:Can L f i o:=⟨yF,λk E=>by rw[<-xS];exact xn k E,λj o' xj X k E=>by rw[<-xS]at X ⊢;exact yb j o' xj X k E⟩
  have yl:∀k,Fz f i k=false->f k=false:=λk E=>by
   cases G:f k with
   |false=>rfl
   |true=>unfold Fz at E;rw[G,Bool.or_true]at E;cases E
  generalize yD:(xk.filter λq=>Fz f i q.2).map (·.1)=ye
  have yk:∀j,j∉ye↔∀q∈xk,q.1=j->Fz f i q.2=false:=λj=>by
   rw[<-yD];refine⟨λh q z e=>?_,λh hm=>?_⟩
   .cases G:Fz f i q.2 with
    |false=>rfl
    |true=>exact absurd (YaD.2 ⟨q,Yee.2 ⟨z,G⟩,e⟩) h
   .obtain ⟨q,z,e⟩:=YaD.1 hm
    obtain⟨z,G⟩:=Yee.1 z;rw[h q z e]at G;cases G
  have yt:∀p∈IQ (L.take m) (ckK ye ks) xf xb,((∃j,f j=true/\(∀q∈xk,q.1=j->Fz f i q.2=false)/\ks[j]? = some p.2)\/p∈xf)/\AVr H.length xx s1 p.2 (a'.tmps.getD p.1 undef):=λp xa=>by
   rcases Em.1 xa with⟨i',o',g1,g2,g3,g4⟩ | g
   .obtain ⟨g5,g6⟩:=A2Q.1 g2
    have g7:=(yk i').1 g5;rw[xS]at g4;exact⟨.inl ⟨i',g4,g7,g6⟩,xd.hq i' o' p.1 p.2 g1 g3 (by rw[JN λq z e=>yl _ (g7 q z e)];exact g6) g4⟩
   .exact ⟨.inr g,xd.hb _ g⟩
  have yn:StI s0 n ⟨IQ (L.take m) (ckK ye ks) xf xb,M f⟩ a' s1 xx:=⟨xd.st.le,xd.st.ok,λt av N=>by
   rw[show(⟨IQ (L.take m) (ckK ye ks) xf xb,M f⟩:AS).hp.length=H.length from xV _];exact(yt (t,av) (Fj N)).2,xd.st.sz,xd.st.df,xd.st.hp,xd.st.sep,xd.st.own⟩
  refine yi _ (xA ck.ns f yw xZ _ (λp xa=>(yt p xa).1) s1 xx a' yn (λy O=>by rw[xV];exact xL y (ck.kq y O)) _ λv u xy xt xo h6=>?_);rw[xV]at h6
  have xF:∀(p:Nat×AV),p∈IQ (L.take m) (ckK ye ks) xf xb->AVr H.length xy u p.2 (a'.tmps.getD p.1 undef):=λp xa=>by
   have:=xo.fr p.1 p.2 (Pt xa λq z W=>by
    rcases Em.1 xa with⟨i1,o1,g1,g2,g3,g4⟩ | g<;>rcases Em.1 z with⟨i2,o2,k1,k2,k3,k4⟩ | k0
    .rw [W]at k3
     obtain⟨_,_,d3,_,_,xR⟩:=xz i1 o1 g1;obtain rfl:d3=p.1:=Yag (xR.dst.symm.trans g3);obtain rfl:=xR.du i2 o2 k1 k3;rw[g2]at k2;have:=Yag k2;simp only[CK.q.injEq]at this;exact Prod.ext W this.symm
    .exact absurd (g3.trans (congrArg some W.symm)) (xs q k0 o1 (Yaz g1))
    .exact absurd (k3.trans (congrArg some W)) (xs p g o2 (Yaz k1))
    .have B:=xW p g
     have C:=xW q k0;rw[W,B]at C;exact Prod.ext W (Yag C).symm)
   rwa [show(⟨IQ (L.take m) (ckK ye ks) xf xb,M (Fz f i)⟩:AS).hp.length=H.length from xV _]at this
  refine .inl ⟨u,xy,rfl,λk E=>by rw[getD_set_ne false ZbC];exact xU k E,yx,by rw[yh];exact xt,?_⟩;rw[yh];have B:=xo.put (GS.Le.refl u) (dst:=o.dst) (λd' xl=>by rw[ck.dst]at xl;cases xl;exact ck.dn) (v:=v) (r:=.d Cs) trivial;rw[ck.dst]at B ⊢;refine⟨B.bare,λi' o' d' r' xj xl xC J=>?_,λp xa=>?_⟩
  .by_cases yp:i'=i
   .subst yp
    obtain rfl:o'=o:=Yag (xj.symm.trans yc);obtain rfl:d'=d:=Yag (xl.symm.trans ck.dst);rw[Lt xG];rw[ND,Y]at xC;have xC:=Yag xC;rw[<-xC]
    cases xk.any (λp=>Nat.beq p.1 (0+i')&&Fz f i' p.2)with
    |true=>trivial
    |false=>exact h6
   .have xT:f i'=true:=by
     unfold Fz at J
     cases G:Nat.beq i' i with
     |true=>exact absurd (Yan G) yp
     |false=>rw[G]at J;exact J
    have xi:xb.getD i' false=true:=by rw[xS];exact xT
    rw[GI (xh i' o' d' xj xl xi)];rcases A09 xC with e' | ⟨g1,g2⟩
    .rw [e'];trivial
    .exact xF (d',r') (Em.2 (.inl ⟨i',o',xj,A2Q.2 ⟨(yk i').2 g1,g2⟩,xl,xi⟩))
  .rw [GI (yj p xa)]
   exact xF p (Em.2 (.inr xa))
 .intro xb a' w1 xe hI c
  have xe:xb.size=L.length:=by simpa using xe
  have ya:∀i,i<m->xb.getD i false=true:=by
   intro i
   induction i using Nat.strongRecOn with
   |_ i ih=>
    intro K;have T:L[i]? = some (L[i]'(ZbC)):=Yab ZbC;have yc:(L.take m)[i]? = some (L[i]'(ZbC)):=by rw[YaK,Yao K];exact T
    obtain⟨e,r,d,S,Y,ck⟩:=xz i _ yc
    cases hg:xb.getD i false with
    |true=>rfl
    |false=>
     have:i∈Region.ready .any L.toArray xb:=(DH xe T).2 ⟨hg,λk E=>ih k (ck.lt k E) (by have:=ck.lt k E;omega)⟩;rw[c]at this;cases this
  rcases hI with⟨s1,xx,rfl,xU,_,xZ,_⟩ | ⟨t,htm,htl,hIm,hall,hnone,hrest⟩
  .have T:L[m]? = some (L[m]'(ZbC)):=Yab ZbC
   have:m∈Region.ready .any L.toArray xb:=(DH xe T).2 ⟨xU m (Yai _),λk E=>ya k (yr (by rw[show(Nat.blt · m)=(λk=>xb.getD k false)from(blt_eq m ya xU).symm];exact xZ) m _ (Yai _) T k E)⟩;rw[c]at this;cases this
  .rcases Nat.lt_or_eq_of_le htl with h | h
   .have T:L[t]? = some (L[t]'h):=Yab h
    have:t∈Region.ready .any L.toArray xb:=(DH xe T).2 ⟨hnone t (Yai _),λk E=>hall k (yr hIm t _ htm T k E)⟩;rw[c]at this;cases this
   .rw [h,List.drop_length]at hrest
    exact hrest
 .rw [Array.count_replicate]
  simp
theorem DSteps.imp{P:Program}{w:List (Nat×AV)}{F:List Ow}{id:Nat}{Y f:Ow}{I:List AV}{c:Nat}{C G:List (Nat×Nat)->Oper->AV->Prop}(h:∀x o r,C x o r->G x o r):∀{L:List Oper} {S:List (List (Nat×Nat))} {R:List AV} {j:Nat},DSteps P w F id Y f I c C j L S R->DSteps P w F id Y f I c G j L S R
 |[],[],[],_,_=>trivial
 |[],[],_::_,_,h=>h.elim
 |[],_::_,R,_,h=>by cases R<;>exact h.elim
 |_::_,[],R,_,h=>by cases R<;>exact h.elim
 |_::_,_::_,[],_,h=>h.elim
 |B::L,N::S,l::R,j,⟨q,A⟩=>⟨by
  cases E:Nat.beq j c with
  |true=>rw[E]at q;exact h _ _ _ q
  |false=>rw[E]at q;exact q,DSteps.imp h A⟩
def DTW(P:Program)(s0:An)(n:Nat)(Q:Exit->AS->Prop)(E:Prop)(w:List (Nat×AV))(q:List Ow)(id:Nat)(Y f:Ow)(I:List AV)(B:List Nat)(c:Nat)(z:List (Nat×Nat))(o:Oper)(r:AV):Prop:=BN o.op=true->∀F:List (Nat×AV),(∀p∈F,(∃i,i≠c/\i∉B/\I[i]? = some p.2)\/p∈w)->∀(s:GS) (V:Nat->Value) (a:Act),StI s0 n ⟨F,EY q id Y f false⟩ a s V->(∀y∈o.op.operands,AVr q.length V s (DN ⟨w,EY q id Y f false⟩ (I.map HR.av) z y) (a.eval y))->∀R:Act->World->Prop,(∀v j A,E->StI s0 n ⟨F,EY q id Y f true⟩ a j A->AVr q.length A j r v->R (a.put o.dst v) j.w)->o.wp P a s.w R (GR s0 n Q)
theorem Un{c:Nat}{f:Nat->Bool}(B:f c=true){V:List Nat}:∀{i:Nat} {I:List AV},Hm f (V.map λj=>(j,c)) i I=A0a V i I
 |_,[]=>rfl
 |i,r::I=>by
  have e:(V.map λj=>(j,c)).any (λp=>Nat.beq p.1 i&&f p.2)=V.any (Nat.beq i):=by
   rw[List.any_map,YcW,YbF,YbF];simp only[Function.comp,B,Bool.and_true];exact⟨λ⟨x,q,A⟩=>⟨x,q,by rw[Yan A];exact YcA i⟩,λ⟨x,q,A⟩=>⟨x,q,by rw[Yan A];exact YcA x⟩⟩
  unfold Hm A0a;rw[e,Un B]
theorem A29{f:Nat->Bool}(h:∀q∈vw,f q.2=false):Hm f vw 0 R=R:=YbX λj=>JN λq m _=>h q m
theorem A6L{f:Nat->Bool}{x:List (Nat×Nat)}(h:∀p∈x,∀q∈vw,q.1≠p.2):DN ve ((Hm f vw 0 R).map HR.av) x=DN ve (R.map HR.av) x:=funext λy=>by
 cases y with
 |tmp t=>
  show(match x.find? (λp=>p.1==t)with
   |some p=>match ((Hm f vw 0 R).map HR.av)[p.2]? with
    |some h=>h.val
    |none=>.d Cs
   |none=>(Ce ve.fr t).getD (.d Cs))=(match x.find? (λp=>p.1==t)with
   |some p=>match (R.map HR.av)[p.2]? with
    |some h=>h.val
    |none=>.d Cs
   |none=>(Ce ve.fr t).getD (.d Cs))
  cases C:x.find? (λp=>p.1==t)with
  |none=>rfl
  |some p=>
   dsimp only
   rw[Yav,Yav,JN λq m e=>absurd e (h p (Ybp C) q m)]
 |_=>rfl
theorem JO(f:Nat->Bool)(i:Nat):Fz f i i=true:=by
 unfold Fz;rw[YcA];rfl
theorem Kv{f:Nat->Bool}{i c:Nat}(h:i≠c):Fz f i c=f c:=by
 unfold Fz
 cases E:Nat.beq c i with
 |true=>exact absurd (Yan E).symm h
 |false=>rfl
theorem NA{E:Prop}{s0:An}{n:Nat}(id:Nat)(o0 o1:Ow)(c m:Nat)(xd xa:List Nat)(l:List AV)(T F:List (Nat×AV))(S:DrawOk P s0 n b ua vf vm vm)(xb:H[id]? = some o0)(xi:FrIn vb T)(xc:Nat.blt c m=true)(z:Nat.blt m vf.length=true)(xk:E->((List.range (vf.length-m)).all λt=>(match vf[m+t]? with | some o=>Bw o | none=>[]).all λk=>decide (k<m+t))=true)(xl:((List.range (vf.length-m-1)).all λt=>(match vf[m+t+1]? with | some o=>Bw o | none=>[]).contains (m+t))=true)(xj:(MZ vf [m] xd&&(List.range m).all λj=>xd.contains j)=true)
  (steps:DSteps P T H id o0 o1 l c (DTW P s0 n vm E T H id o0 o1 l xa c) 0 (vf.take m) (Ho (vf.take m)) l) (d:Zh (vf.take m) (Ho (vf.take m)) l T n=true) (xf:((Ho (vf.take m)).zipIdx.all λp=>Nat.beq p.2 c||p.1.all λq=>!xa.contains q.2)=true) (hF:FrIn (QQ (vf.take m) (A0a xa 0 l) T) F) (M:List Ow) (hM:EY H id o0 o1 true=M) (fin:E->AWl P s0 n vf.toArray vm (vf.drop m) ⟨F,M⟩):AWp P s0 n (.region b ua true) vm ⟨vb,H⟩:=by
 subst hM;have xg:Nat.blt c m=true:=xc
 refine Ks (fun f => f c = true → E) m xd (fun f => EY H id o0 o1 (f c)) (xa.map fun j => (j, c)) l T F S xi z (fun h => by cases h) (XW xb) (fun f => Jr H id o0 o1 _) (fun h => xk (h xg)) xl xj (fun i o x r Q C Y => ?_) d (by rw [Un (f := fun k => Nat.blt k m) xg]; exact hF) (fun h => by
  have:=fin (h xg);rw[<-xg]at this;exact this)
 have I:=steps.at i o x r Q C Y;rw[YaH]at I;by_cases xh:i=c
 .subst xh
  rw[YcA]at I;intro xe f G y F' xm s V a u O R g;have I:DTW P s0 n vm E T H id o0 o1 l xa i x o r:=I
  have w:Hm f (xa.map λj=>(j,i)) 0 l=l:=A29 λq L=>by
   obtain⟨j,_,rfl⟩:=YaD.1 L;exact G.no
  dsimp only at u O g
  rw[G.no]at u;rw[w,G.no,Jr]at O;rw[JO,G.no,Jr]at g
  exact I xe F' (fun p W => (xm p W).imp (fun ⟨j, A, B, K⟩ => ⟨j, (fun e => by rw [e, G.no] at A; cases A), (fun S => by
   have:=B (j,i) (YaD.2 ⟨j,S,rfl⟩) rfl;rw[JO]at this;cases this),K⟩) λh=>h) s V a u O R λv J U Z A B=>g v J U (λ_=>Z) A B
 .rw [show Nat.beq i c=false from Ydi.2 λh=>xh (Yan h)]at I
  have I:A32 P T H id o0 o1 l x o r:=I;refine XStep.q (λf _ h=>by rwa [Kv xh]) (λf=>by rw[Kv xh]) λf _=>?_;rw[A6L λp W q L=>?_]
  .exact I (f c)
  .obtain ⟨j,X,rfl⟩:=YaD.1 L
   intro e;have N:=Yah.1 xf (x,i) (by rw[YbQ];exact C);simp only[YaT]at N;rcases N with N | N
   .exact xh (Yan N)
   .have:=Yah.1 N p W
    replace e:j=p.2:=e;rw[e]at X;simp[X]at this
theorem FP{s0:An}{n:Nat}(id:Nat)(Y f:Ow)(c m:Nat)(W O:List Nat)(L:List AV)(w F:List (Nat×AV))(I:P.follows .mixedOrders=true)(y:H[id]? = some Y)(T:FrIn vb w)(S:Nat.blt c m=true)(N:Nat.blt m vf.length=true)(d:((List.range (vf.length-m)).all λt=>(match vf[m+t]? with | some o=>Bw o | none=>[]).all λk=>decide (k<m+t))=true)(e:((List.range (vf.length-m-1)).all λt=>(match vf[m+t+1]? with | some o=>Bw o | none=>[]).contains (m+t))=true)(Z:(MZ vf [m] W&&(List.range m).all λj=>W.contains j)=true)
  (steps:DSteps P w H id Y f L c (DTurn P s0 n w H id Y f L O c) 0 (vf.take m) (Ho (vf.take m)) L) (J:Zh (vf.take m) (Ho (vf.take m)) L w n=true) (u:((Ho (vf.take m)).zipIdx.all λp=>Nat.beq p.2 c||p.1.all λq=>!O.contains q.2)=true) (hF:FrIn (QQ (vf.take m) (A0a O 0 L) w) F) (M:List Ow) (Q:EY H id Y f true=M) (fin:AWl P s0 n vf.toArray vm (vf.drop m) ⟨F,M⟩):AWp P s0 n (.region b vf.toArray true) vm ⟨vb,H⟩:=NA (E:=True) id Y f c m W O L w F (Fc I) y T S N (λ_=>d) e Z (steps.imp λ_ _ _ h X F hF s V a C G _ K=>RegG.opStep_wp X (λ_ _=>rfl) (h F hF s V a C G) λv E ⟨R,A,B⟩=>K v E R trivial A B) J u hF M Q λ_=>fin
theorem XH:∀(i:Nat) (I:List AV),A0a [] i I=I
 |_,[]=>rfl
 |i,r::I=>by
  unfold A0a;rw[XH];rfl
theorem Con.toP{ch:List PanicEntry}(h:Con P vd R H [] vy):ConP P vd R H vy ch False:=⟨h.1,λs V J q A K Q k=>Calls.mono (h.2 s V J q A K Q k) λ_ _ ⟨v,e,r⟩=>.inl ⟨v,e,r⟩⟩
theorem ZU{s0:An}{n:Nat}{E:Prop}{i l:Ow}{ch:List PanicEntry}(y:H[b]? = some i)(xi:(∀e,i.ren e=i)/\(∀e,l.ren e=l)/\i.below 1)(S:va.op=.call { callee:=.value (.func vd),args:=#[x],argTypes:=vt })(xr:∀B,DN ⟨vb,EY H b i l B⟩ (R.map HR.av) vw x=.ptr b 0)(xp:ConP P vd [.ptr 0 0] [i] vy ch xh)(xt:∀r M,vy r M->E/\r=h/\M=[l]/\∃d,h=.d d)(xo:xh->∀I,vm (.panic ch) I):DTW P s0 n vm E vb H b i l R [] T vw va h:=λxb F hF c w Y xg xk K Q=>by
 have U:b<H.length:=Cu y;have xm:∀B,(EY H b i l B).length=H.length:=Jr H b i l;have xj:(EY H b i l false)[b]? = some i:=by simp[EY,U]
 have G:=xk x (by rw[S];simp[Op.operands,Call.operands]);rw[xr false]at G;obtain⟨_,bb,xa,xd⟩:=G;let mm:=(EY H b i l false).length;let xn:Nat->Value:=λq=>w (BL [b] mm q);have xe:OwR 0 (EY H b i l false).length w c b i:=xg.hp b i xj
 have xs:=xp.2 c xn [Y.eval x] xg.ok (λq L m=>by
  cases q with
  |zero=>
   cases m;exact OwR.un (e:=BL [b] mm) (by rw[xi.1];exact xe) xi.2.2 YcV λ_ _=>rfl
  |succ q=>cases m) (λp q l o2 xq xl u=>by
  have:=Cu xl;have:=Cu u;simp only[Yck]at *;omega) rfl (λq V m=>by
  match q,m with
  |0,m=>cases m;exact⟨YcV,bb,xa,xd⟩
  |q+1,m=>simp at m)
 have o:(execOp Y.eval va).run P c.w=.ok (.enter vd #[Y.eval x]) c.w:=by
  have W:Y.eval (.func vd)=.func (.func vd) #[] #[]:=rfl;simp[execOp,S,resolve,W,Deferred.ofValue,invoke,xp.1]
 unfold Oper.wp;rw[o];refine Calls.mono xs λe N A=>?_;rcases A with⟨v,rfl,j,a,r,M,J,O,g,X⟩ | ⟨rfl,hN,j,rfl,g⟩
 .obtain ⟨Z,rfl,rfl,d,rfl⟩:=xt _ _ J
  subst O;obtain⟨z,t,-⟩:=StI.con (sel:=[b]) (lost:=[]) (hpS:=[i]) (hp':=[l]) (H1:=(EY H b i l false).set b l) ⟨λp M=>AV.avoid_nil _,λs L xf f=>Ow.avoid_nil _⟩ (λk C=>by cases C) xg ZbR ⟨by rw[xi.1];exact xj,xi.2.2,trivial⟩ X (by show(EY H b i l false).set b (l.ren _)=_;rw[xi.2.1]);have xc:(EY H b i l false).set b l=EY H b i l true:=by simp[EY]
  simp only[Yck,Ybn,List.drop_nil,YaW,Ycb,YbD,xc]at t;exact Q v j z Z t g
 .obtain ⟨z, t, -⟩:=StI.con (sel:=[b]) (lost:=[]) (hpS:=[i]) (hp':=[.dead]) (H1:=(EY H b i l false).set b .dead) ⟨λp M=>AV.avoid_nil _, λs L xf f=>Ow.avoid_nil _⟩ (λk C=>by cases C) xg ZbR ⟨by rw [xi.1]; exact xj, xi.2.2, trivial⟩ g rfl
  exact⟨_,xo hN _,j,z,rfl,t⟩
theorem NC{s0:An}{n:Nat}(id:Nat)(B E:Ow)(c m:Nat)(K:List Nat)(I:List AV)(w F:List (Nat×AV))(v:P.follows .mixedOrders=true)(y:H[id]? = some B)(L:(∀e,B.ren e=B)/\(∀e,E.ren e=E)/\B.below 1)(T:FrIn vb w)(G:Nat.blt c m=true)(s:Nat.beq vf.length (m+1)=true)(S:((match vf[m]? with | some o=>Bw o | none=>[]).all λk=>decide (k<m))=true)(N:(MZ vf [m] K&&(List.range m).all λj=>K.contains j)=true)
  (steps:DSteps P w H id B E I c (DCall P w H id B E I) 0 (vf.take m) (Ho (vf.take m)) I) (C:Zh (vf.take m) (Ho (vf.take m)) I w n=true) (hF:FrIn (QQ (vf.take m) I w) F) (M:List Ow) (a:EY H id B E true=M) (fin:AWl P s0 n vf.toArray vm (vf.drop m) ⟨F,M⟩):AWp P s0 n (.region b vf.toArray true) vm ⟨vb,H⟩:=NA (E:=True) id B E c m K [] I w F (Fc v) y T G ZeY (λ_=>by rw[Yan s,show m+1-m=1 by omega];simpa using S) ZeD N (steps.imp λ_ _ _ ⟨f,x,J,d,A,Y,i,O⟩=>ZU (ch:=[]) y L A i O.toP (λr q h=>⟨trivial,h.1.trans Y.symm,h.2,d,Y⟩) λh=>h.elim) C ZbR (by rw[XH];exact hF) M a λ_=>fin
theorem NB{s0:An}{n:Nat}{d:List PanicEntry}(id:Nat)(Y:Ow)(c m:Nat)(J:List Nat)(I:List AV)(w:List (Nat×AV))(v:P.follows .mixedOrders=true)(y:H[id]? = some Y)(K:(∀e,Y.ren e=Y)/\Y.below 1)(T:FrIn vb w)(E:Nat.blt c m=true)(s:Nat.beq vf.length (m+1)=true)(L:(MZ vf [m] J&&(List.range m).all λj=>J.contains j)=true)
  (steps:DSteps P w H id Y Y I c (DCallP P w H id Y I vy d vJ) 0 (vf.take m) (Ho (vf.take m)) I) (C:Zh (vf.take m) (Ho (vf.take m)) I w n=true) (S:∀r A,¬vy r A) (M:vJ->∀q,vm (.panic d) q):AWp P s0 n (.region b vf.toArray true) vm ⟨vb,H⟩:=NA (E:=False) id Y Y c m J [] I w [] (Fc v) y T E ZeY (λh=>h.elim) ZeD L (steps.imp λ_ _ _ ⟨f,x,G,F,i,N⟩=>ZU y ⟨K.1,K.1,K.2⟩ F i N (λB A h=>absurd h (S _ _)) M) C ZbR trivial _ rfl λh=>h.elim
def B8(l:List Nat):Prop:=∀z∈l,z<256
theorem B8.nil:B8 []:=λ_ h=>by cases h
theorem B8.app{a b:List Nat}(t:B8 a)(E:B8 b):B8 (a++b):=λz h=>(YbW.1 h).elim (t z) (E z)
theorem B8.flat(h:∀x,B8 (ug x))(l:List e):B8 (l.flatMap ug):=λz n=>by
 obtain⟨x,-,C⟩:=YeG.1 n;exact h x z C
theorem Ww(n:Nat):B8 (By n):=by
 induction n using Nat.strongRecOn with
 |ind n u=>
  rw[By];split
  .intro z q
   rw[Yax.1 q];omega
  .intro z q
   rcases YaL.1 q with rfl | q
   .omega
   .exact u _ ZbC z q
theorem A7J(w:Nat):B8 (Cy w):=λz n=>by
 simp only[Cy,YaL,YdW,or_false]at n;omega
theorem WF(b:Bool)(l:List Nat):B8 (FD b l):=.app (Ww _) (.flat A7J l)
theorem Sa(q:RQ):B8 (CD q):=.app (WF _ _) (WF _ _)
theorem Pm(h:∀x,B8 (ug x))(f:Nat->e):B8 (Kb ug f):=.flat (λ_=>h _) _
theorem HM(h:∀x,B8 (ug x))(l:List e):B8 (Bp ug l):=.app (Ww _) (.flat h l)
theorem A7Q(t:RTm):B8 (Eu t):=.app (.app (WF _ _) (WF _ _)) (Pm (λ_=>Ww _) _)
theorem Wf(p:List RTm):B8 (CH p):=HM A7Q p
theorem JY(p:List (List RTm)):B8 (Bj p):=HM Wf p
theorem RL(p:List (List (List RTm))):B8 (BQ p):=HM JY p
theorem KE(z:Int):B8 (Bs z):=Ww _
theorem Yt(o:List (Nat->Int)):B8 (CC o):=HM (Pm KE) o
theorem A50(o:List RQ):B8 (GW o):=HM Sa o
theorem A9x(a:RQ×RQ):B8 (GT a):=.app (Sa _) (Sa _)
theorem Zq(a:List (Nat->RQ×RQ)):B8 (Gm a):=HM (Pm A9x) a
theorem AbV(a:RQ×List RTm):B8 (Kt a):=.app (Sa _) (Wf _)
theorem AaP(k:Cor):B8 (FY k):=.app (.app (KE _) (JY _)) (JY _)
theorem AaS(c:Clm):B8 (Ix c):=.app (.app (.app (.app (.app (.app (.app (.app (KE _) (Wf _)) (KE _)) (KE _)) (KE _)) (Yt _)) (JY _)) (HM KE _)) (Zq _)
theorem Aa1(r:Rsl):B8 (JH r):=.app (.app (Pm KE _) (A50 _)) (Pm A50 _)
theorem AaM(e:Crt):B8 (Kk e):=.app (.app (.app (.app (.app (.app (.app (.app (.app (.app (.app (KE _) (JY _)) (JY _)) (Yt _)) (RL _)) (RL _)) (RL _)) (Aa1 _)) (HM A9x _)) (HM AbV _)) (HM (Pm Sa) _)) (Zq _)
theorem Py(f:Fct):B8 (EH f):=.app (.app (AaP _) (AaS _)) (AaM _)
theorem A1l(P Q:List Tm)(g:P.length<=9223372036854775807):Abs prog 17 [BS P,BS Q] (eB (JT P Q)):=by
 by_cases I:P.length=Q.length
 .refine Ab func17 λy=>?_
  rw[ntmps17];refine Go ?_;refine AC (λw q=>∃k,k<=P.length/\w=P.length-k/\(∀j,j<k->tmB (BA P j) (BA Q j)=true)/\q=⟨[(0,.d (BS P)),(1,.d (BS Q)),(4,.d (eB false)),(5,.d (eN k))],[]⟩) ?le ⟨0,by omega,rfl,λj h=>absurd h ZbC,rfl⟩ ?round
  case le=>exact Zkk
  case round=>
   rintro w _ ⟨k,B,rfl,H,rfl⟩;by_cases O:k<P.length
   .have c:=Uh (BA P k) (BA Q k)
    cases E:tmB (BA P k) (BA Q k)with
    |true=>
     rw[E]at c;refine Go ?_;refine Dy 10 ?_;refine ZfU ?_
     refine Ai (P.length - (k + 1)) ZbC ⟨k + 1, by omega, rfl, fun j X => (by
      by_cases e:j=k
      .rw [e];exact E
      .exact H j ZbC),rfl⟩ ?_
     exact Zkk
    |false=>
     rw[E]at c
     have a:JT P Q=false:=Qh λh=>by
      have:=(Ml.1 h).2 k O;rw[E]at this;cases this
     refine Go ?_;refine Dy 10 ?_;refine ZfU ?_;exact AA (Am (ResV.tmp rfl rfl) (Ae (by rw[a])))
   .obtain rfl:k=P.length:=by omega
    have a:JT P Q=true:=Nj.2 (Ml.2 ⟨I,H⟩);exact ZiW
 .have a:JT P Q=false:=Qh λh=>I (Ml.1 h).1
  refine Ab func17 λy=>?_;rw[ntmps17];exact ZiW
theorem A1k(P Q:List Tm):Abs prog 17 [BS P,BS Q] (eB (JT P Q)):=by
 refine⟨Ag func17 ZbG ZbG,λs J q B K=>?_⟩;obtain⟨A,c,_,h,b,_⟩:=A3p (K 0 ZbR);exact(A1l P Q ZbC).2 s J q B K
def Ji(i:Nat):Nat->Int:=RW (λ_=>0) i 1
theorem A1K(c:Rat)(m:Nat->Int)(P:List Tm)(N M:Nat)(G:c≠0)(o:RSz c N)(v:In8 m 0 65535)(A:PSz P M)(E:PIn P 0 65535)(F:∀t∈P,In8 (CY m t.m) 0 65535)(g:P.length<=100000)(C:N+M<=4398046511104):Abs prog 294 [AP (DE c),AP (CN m),BS P] (FA [BS (Ur c m P),eI 0]):=by
 have a:c.num.sign≠0:=λe=>G (DL.1 e);refine Ab func294 λy=>?_;rw[ntmps294];have b:=EQ c;refine Go ?_;refine AC (λw q=>∃k,k<=P.length/\w=P.length-k/\q=⟨[(3,.ptr 0 0),(4,.ptr 1 0),(7,.d (eI 0)),(8,.own 2),(19,.d (BS P)),(20,.d (eN P.length)),(21,.d (eN k))],[.var 111 ((DE c).map .d),.var 112 ((CN m).map .d),.row 114 12 ((Ur c m (P.take k)).map QW)]⟩) ?le ⟨0,by omega,rfl,rfl⟩ ?round
 case le=>exact Ac Zek (by exact Yv<|Yv<|Yr<|HpLe.nil)
 case round=>
  rintro w _ ⟨k,B,rfl,rfl⟩;by_cases O:k<P.length
  .have L:=DC O
   have p:=RH O;have s:=A66 m (BA P k).m v (E _ L) (F _ L);refine Go ?_;refine Dy 8 ?_;have V:=A5W c (BA P k).c N M o (A _ L) C;refine DA ?_
   (refine Ap ?_);refine ZfT ?_;exact Ac Zek Zdl
  .exact ZaQ
theorem A37{k:Nat}(h:k<vc.length):OY (vc.take (k+1))=OY (vc.take k) ||| suppTo (BA vc k).m 8:=UV _ _ h
theorem Vx(P:List Tm):OY P<256:=by
 have key:∀(P:List Tm) (s:Nat),s<256->P.foldl (λs t=>s ||| suppTo t.m 8) s<256:=by
  intro P
  induction P with
  |nil=>intro s h;exact h
  |cons t P u=>intro s h;exact u _ (YeC (n:=8) h (JQ t.m 8))
 exact key P 0 ZbC
theorem A4r(P:List Tm)(g:P.length<=1000000):Abs prog 245 [BS P] (ex (.int .u8 (OY P:Nat))):=by
 refine Ab func245 λy=>?_;rw[ntmps245];refine Go ?_;refine AC (λw e=>∃k,k<=P.length/\w=P.length-k/\e=⟨[(3,.d (ex (.int .u8 (OY (P.take k):Nat)))),(6,.d (BS P)),(7,.d (eN P.length)),(8,.d (eN k))],[]⟩) ?le ⟨0,by omega,rfl,rfl⟩ ?round
 case le=>exact Zkk
 case round=>
  rintro w _ ⟨k,B,rfl,rfl⟩;by_cases O:k<P.length
  .have q:=Vx (P.take k)
   have A:=JQ (BA P k).m 8;have K:=A37 O;have U:=WA (BA P k).m;refine ZfT ?_;exact Ac (by exact FrLe.cons rfl (AVle.int (by rw[K]))<|Yd<|Yd<|Yd<|FrLe.nil) Zcb
  .exact ZaR
theorem A6W(i:Nat)(J:i<8):Abs prog 94 [eN i] (FA [BS [⟨1,Ji i⟩],eI 0]):=by
 refine Ab func94 λy=>?_;rw[ntmps94];refine Y1<|Wa<|Wa<|Y0<|Ah<|Y1<|Wm ?_;refine Wq AL ?_;refine Wm ?_;refine Wg AQ ?_;refine Wg AL ?_;refine Wq BT ?_;refine Y0<|Cf<|Ys<|Y1 ?_;(refine De rfl rfl ?_;(refine Mh (Aa rfl) (Aa rfl) rfl rfl ?_;(repeat ((first | refine⟨_,Ar (ao rfl),?_⟩ | refine⟨_,Po rfl,?_⟩);refine⟨_,rfl,?_⟩));refine⟨_,rfl,?_⟩));refine Al ?_;refine Sf ?_;refine Y0<|Y1<|Wm ?_;refine Wq Ti ?_
 refine A7A 0 (CN λ_=>0) rfl rfl rfl ?_;refine Go ?_;refine Dy 4 ?_;have s:=Fa 1 ZbC ZbC;refine ZfU ?_;exact AA (Rets.of2 (ResV.tmp rfl rfl) (ResV.tmp rfl rfl) (Cn (D.le.refl _) (D.le.refl _)))
def A0N(a b:Nat->Int)(k:Nat):Nat->Int:=λj=>if j<k then a j+b j else a j
theorem A5Z(a b:Nat->Int)(k:Nat):RW (A0N a b k) k (a k+b k)=A0N a b (k+1):=by
 funext j;simp only[RW,A0N];rcases Yci j k with h | h | h
 .rw [Yaj ZbC,Yao h,Yao ZbC]
 .subst h;simp
 .rw [Yaj ZbC,Yaj ZbC,Yaj ZbC]
theorem A8g(a b:Nat->Int)(k:Nat):A0N a b k k=a k:=Yaj (Ycm k)
theorem A49(a b:Nat->Int)(t:In8 a 0 65535)(E:In8 b 0 65535)(h:In8 (CY a b) 0 65535):Abs prog 181 [AP (CN a),AP (CN b)] (FA [AP (CN (CY a b)),eI 0]):=by
 refine Ab func181 λy=>?_;rw[ntmps181];refine Go ?_;refine AC (λw e=>∃k,k<=8/\w=8-k/\e=⟨[(2,.ptr 0 0),(3,.ptr 1 0),(4,.ptr 2 0),(6,.d (eN k))],[.var 112 ((CN (A0N a b k)).map .d),.var 112 ((CN b).map .d),.var 112 ((CN λ_=>0).map .d)]⟩) ?le ⟨0,by omega,rfl,rfl⟩ ?round
 case le=>exact Ac Zdf (by exact Yv<|Yv<|Yv<|HpLe.nil)
 case round=>
  rintro w _ ⟨k,B,rfl,rfl⟩;by_cases O:k<8
  .have q:=A8g a b k
   have A:=t k O;have K:=E k O;refine Go ?_;refine Dy 8 ?_;refine ZfU ?_;refine Ai (8-(k+1)) ZbC ⟨k+1,by omega,rfl,rfl⟩ ?_;exact Ac Zdf (by exact HpLe.cons (OwLe.varD (by rw[q,A5Z]))<|Yv<|Yv<|HpLe.nil)
  .obtain rfl:k=8:=by omega
   refine Ah<|Y1<|Wm ?_;refine Wq AL ?_;refine Y0<|Cf<|Cc<|Bz<|BM<|BE<|Yn<|Ah<|Y1 ?_;refine Wq AF ?_;refine Wq (AJ (WY (A0N a b 8) λi J=>by have:=h i J;rw[A0N,Yao J];exact this)) ?_;refine Wq GD ?_;refine Y0<|Cf<|Ys<|Y1 ?_;refine Wq AF ?_;refine Sf ?_;refine Wa<|Y0<|BR ?_
   exact AA (Rets.of2 (ResV.cell rfl rfl (Aa rfl) rfl rfl rfl) (ResV.tmp rfl rfl) (Cn (D.le.refl _) (D.le.refl _)))
theorem Aam{s t:Tm}(h:lx s.m t.m=1):Jq (s::vc) (t::uj)=s::Jq vc (t::uj):=by
 rw[Jq,Yao (show 0<lx s.m t.m by omega)]
theorem Aal{s t:Tm}(h:lx s.m t.m=-1):Jq (s::vc) (t::uj)=t::Jq (s::vc) uj:=by
 rw[Jq,Yaj (show¬0<lx s.m t.m by omega),Yao (show lx s.m t.m<0 by omega)]
theorem A5X{s t:Tm}(h:lx s.m t.m=0):Jq (s::vc) (t::uj)=if s.c+t.c=0 then Jq vc uj else⟨s.c+t.c,s.m⟩::Jq vc uj:=by
 rw[Jq,Yaj (show¬0<lx s.m t.m by omega),Yaj (show¬lx s.m t.m<0 by omega)]
theorem Wt(Q:List Tm):Jq [] Q=Q:=by rw[Jq]
theorem A71(P Q:List Tm)(N M:Nat)(A:PSz P N)(C:PSz Q M)(K:N+M+1<=4398046511103)(g:P.length+Q.length<=100000):Abs prog 223 [BS P,BS Q] (BS (Jq P Q)):=by
 refine Ab func223 λy=>?_;rw[ntmps223];refine Go ?_;refine AC (λw q=>∃(i k:Nat) (R:List Tm),i<=P.length/\k<=Q.length/\R++Jq (P.drop i) (Q.drop k)=Jq P Q/\R.length<=i+k/\w=(P.length-i)+(Q.length-k)/\q=⟨[(0,.d (BS P)),(1,.d (BS Q)),(5,.own 0),(6,.d (eN i)),(7,.d (eN k))],[.row 114 12 (R.map QW)]⟩) ?le ⟨0,0,[],by omega,by omega,rfl,by simp,rfl,rfl⟩ ?round
 case le=>exact Ac Zcr Zdt
 case round=>
  rintro w _ ⟨i,k,R,J,B,heq,I,rfl,rfl⟩;by_cases f:i<P.length
  .have d:=Hf f
   by_cases c:k<Q.length
   .have X:=Hf c
    rw[d,X]at heq;have a:=A _ (DC f);have L:=C _ (DC c);rcases A68 (BA P i).m (BA Q k).m with G | G | G
    .have W:Iv (BA P i).m (BA Q k).m = -1:=by rw [<-Np];exact G
     refine Go ?_;refine Dy 24 ?_;have U:=GO (BA P i).m (BA Q k).m;refine DA ?_;refine Go ?_;refine Dy 18 ?_;have b:=GO (BA P i).m (BA Q k).m;refine DA ?_;refine Y0<|Ct<|Y1<|Wm<|Wm<|Wm ?_;refine Wq Dt ?_;refine Wq Ca ?_;refine Wq (Cb (ao rfl) (Aa rfl) (Aa rfl) rfl rfl rfl rfl rfl) ?_;(refine Ap ?_);refine Wa<|Y0<|Y1<|Wm ?_;refine Wq CL ?_;refine Wa<|Y0<|Cc<|Bz<|BE ?_
     refine Ai ((P.length-i)+(Q.length-(k+1))) ZbC ⟨i,k+1,R++[BA Q k],by omega,by omega,?_,by simp;omega,rfl,rfl⟩ ?_
     .rw [Aal G]at heq
      rw[<-heq,d];simp
     .exact Ac Zcr Zep
    .have W:Iv (BA P i).m (BA Q k).m=0:=by rw [<-Np];exact G
     by_cases n:(BA P i).c+(BA Q k).c=0
     .have S:=DL.2 n
      refine Go ?_;refine Dy 24 ?_;have s:=GO (BA P i).m (BA Q k).m;refine ZfU ?_;refine Dy 18 ?_;have V:=GO (BA P i).m (BA Q k).m;refine ZfU ?_;refine Dy 12 ?_;have E:=Pq (BA P i).c (BA Q k).c N M a L K;refine DA ?_;have O:=GB ((BA P i).c+(BA Q k).c);refine Go ?_;refine Ai ((P.length-(i+1))+(Q.length-(k+1))) ZbC ⟨i+1,k+1,R,by omega,by omega,?_,by omega,rfl,rfl⟩ ?_
      .rw [A5X G,Yao n]at heq
       exact heq
      .exact Ac Zcr Zdt
     .have S:((BA P i).c+(BA Q k).c).num.sign≠0:=λe=>n (DL.1 e)
      refine Go ?_;refine Dy 24 ?_;have Y:=GO (BA P i).m (BA Q k).m;refine ZfU ?_;refine Dy 18 ?_;have Z:=GO (BA P i).m (BA Q k).m;refine ZfU ?_;refine Dy 12 ?_;have T:=Pq (BA P i).c (BA Q k).c N M a L K;refine DA ?_;have z:=GB ((BA P i).c+(BA Q k).c);refine Go ?_;refine Dy 9 ?_;refine DA ?_
      (refine Ap ?_);refine Go ?_;refine Ai ((P.length-(i+1))+(Q.length-(k+1))) ZbC ⟨i+1,k+1,R++[⟨(BA P i).c+(BA Q k).c,(BA P i).m⟩],by omega,by omega,?_,by simp;omega,rfl,rfl⟩ ?_
      .rw [A5X G,Yaj n]at heq
       rw[<-heq];simp
      .exact Ac Zcr (by refine HpLe.cons (OwLe.row (IV QW R ⟨(BA P i).c+(BA Q k).c,(BA P i).m⟩)) ?_;exact HpLe.nil)
    .have W:Iv (BA P i).m (BA Q k).m=1:=by rw [<-Np];exact G
     refine Go ?_;refine Dy 24 ?_;have H:=GO (BA P i).m (BA Q k).m;refine DA ?_;refine Y0<|Ct<|Y1<|Wm<|Wm<|Wm ?_;refine Wq Dt ?_;refine Wq Ca ?_;refine Wq (Cb (ao rfl) (Aa rfl) (Aa rfl) rfl rfl rfl rfl rfl) ?_;(refine Ap ?_);refine Wa<|Y0<|Y1<|Wm ?_;refine Wq CL ?_;refine Wa<|Y0<|Cc<|Bz<|BE ?_
     refine Ai ((P.length-(i+1))+(Q.length-k)) ZbC ⟨i+1,k,R++[BA P i],by omega,by omega,?_,by simp;omega,rfl,rfl⟩ ?_
     .rw [Aam G]at heq
      rw[<-heq,X];simp
     .exact Ac Zcr Zeo
   .refine Go ?_
    refine Dy 24 ?_;refine DA ?_;refine Y0<|Ct<|Y1<|Wm<|Wm<|Wm ?_;refine Wq Dt ?_;refine Wq Ca ?_;refine Wq (Cb (ao rfl) (Aa rfl) (Aa rfl) rfl rfl rfl rfl rfl) ?_;(refine Ap ?_);refine Wa<|Y0<|Y1<|Wm ?_;refine Wq CL ?_;refine Wa<|Y0<|Cc<|Bz<|BE ?_
    refine Ai ((P.length-(i+1))+(Q.length-k)) ZbC ⟨i+1,k,R++[BA P i],by omega,by omega,?_,by simp;omega,rfl,rfl⟩ ?_
    .have m:Q.drop k=[]:=YaN ZbC
     rw[d,m,A2z]at heq;rw[<-heq,m,A2z];simp
    .exact Ac Zcr Zeo
  .have F:P.drop i=[]:=YaN ZbC
   by_cases c:k<Q.length
   .have X:=Hf c
    refine Go ?_;refine Dy 24 ?_;refine DA ?_;refine Go ?_;refine Dy 18 ?_;refine DA ?_;refine Y0<|Ct<|Y1<|Wm<|Wm<|Wm ?_;refine Wq Dt ?_;refine Wq Ca ?_;refine Wq (Cb (ao rfl) (Aa rfl) (Aa rfl) rfl rfl rfl rfl rfl) ?_;(refine Ap ?_);refine Wa<|Y0<|Y1<|Wm ?_;refine Wq CL ?_;refine Wa<|Y0<|Cc<|Bz<|BE ?_
    refine Ai ((P.length-i)+(Q.length-(k+1))) ZbC ⟨i,k+1,R++[BA Q k],by omega,by omega,?_,by simp;omega,rfl,rfl⟩ ?_
    .rw [X,F,Wt]at heq
     rw[<-heq,F,Wt];simp
    .exact Ac Zcr Zep
   .refine Go ?_
    have m:Q.drop k=[]:=YaN ZbC;exact AA (Am (ResV.tmp rfl rfl) (Ae (by rw[<-heq,F,m,Wt,YbD];rfl)))
theorem ZC(c:Rat)(m:Nat->Int)(P:List Tm)(G:c=0):Abs prog 95 [AP (DE c),AP (CN m),BS P] (FA [BS [],eI 0]):=by
 have a:=DL.2 G;refine Ab func95 λy=>?_;rw[ntmps95];have U:=GB c;refine Go ?_;exact AA (Rets.of2 (ResV.tmp rfl rfl) (ResV.tmp rfl rfl) (Cn (A4x) (D.le.refl _)))
theorem Nw(c:Rat)(m:Nat->Int)(P:List Tm)(N M:Nat)(G:c≠0)(o:RSz c N)(v:In8 m 0 65535)(A:PSz P M)(E:PIn P 0 65535)(F:∀t∈P,In8 (CY m t.m) 0 65535)(g:P.length<=100000)(C:N+M<=4398046511103):Abs prog 95 [AP (DE c),AP (CN m),BS P] (FA [BS (Ur c m P),eI 0]):=by
 have a:c.num.sign≠0:=λe=>G (DL.1 e);refine Ab func95 λy=>?_;rw[ntmps95];have b:=GB c;refine Go ?_;refine AC (λw q=>∃k,k<=P.length/\w=P.length-k/\q=⟨[(2,.d (BS P)),(3,.ptr 0 0),(4,.ptr 1 0),(8,.own 2),(9,.d (eN k))],[.var 111 ((DE c).map .d),.var 112 ((CN m).map .d),.row 114 12 ((Ur c m (P.take k)).map QW)]⟩) ?le ⟨0,by omega,rfl,rfl⟩ ?round
 case le=>exact Ac Zeu (by exact Yv<|Yv<|Yr<|HpLe.nil)
 case round=>
  rintro w _ ⟨k,B,rfl,rfl⟩;by_cases O:k<P.length
  .have L:=DC O
   have p:=RH O;refine Go ?_;refine Ry (XD (e:=9) ZbG (K4 (K4 (AddE.keep (AddE.keep (AddE.keep (AddE.add (AddE.keep AddE.nil))))))) ZbG) [[],[],[],[(24,1),(25,2)],[(26,3)],[(27,4)],[(23,0),(28,5)],[(29,6)],[(22,7)],[(22,7)],[]] [[],[],[],[1,2],[1,2,3],[1,2,3,4],[0,1,2,3,4,5],[0,1,2,3,4,5,6],[0,1,2,3,4,5,6,7],[0,1,2,3,4,5,6,7],[]] rfl ZbG ZbG ZbG ?_;have s:=A49 m (BA P k).m v (E _ L) (F _ L);refine ZfU ?_;refine Dy 11 ?_;have V:=A3z c (BA P k).c N M o (A _ L) C;refine DA ?_
   (refine Ap ?_);refine ZfT ?_;exact Ac Zeu Zdl
  .exact ZaQ
def XX(c:Rat)(P:List Tm):List Tm:=if c=0 then[]else Ur c (λ_=>0) P
theorem A1i(c:Rat)(P:List Tm)(N M:Nat)(o:RSz c N)(q:PSz P M)(E:PIn P 0 65535)(g:P.length<=100000)(B:N+M<=4398046511103):Abs prog 224 [AP (DE c),BS P] (BS (XX c P)):=by
 by_cases G:c=0
 .refine Ab func224 λy=>?_
  rw[ntmps224];have A:=ZC c (λ_=>0) P G;refine Go ?_;exact AA (Am (ResV.tmp rfl rfl) (Tx (by rw[XX,Yao G])))
 .refine Ab func224 λy=>?_
  rw[ntmps224];have C:=Nw c (λ_=>0) P N M G o In8.zero q E (λt L=>by rw[Hu];exact E t L) g B;refine Go ?_;exact AA (Am (ResV.tmp rfl rfl) (Tx (by rw[XX,Yaj G])))
theorem Vz{m:Nat->Int}{N M:Nat}(G:RSz vD N)(q:PSz vc M):PSz (Ur vD m vc) (N+M):=λt L=>by
 obtain⟨s,a,rfl⟩:=YaD.1 L;exact G.mul (q s a)
theorem JG{x:Int}(c:-1000<=x)(q:x<=1000):RSz ((x:Int):Rat) 1:=by
 refine⟨?_,?_⟩
 .show (Aw (x:Int).natAbs).length<=1
  exact Ke Zer
 .show (Aw 1).length<=1
  exact Ke Zer
theorem Canon.nil:Canon []:=⟨List.Pairwise.nil,λt h=>by cases h⟩
theorem OO{t:Tm}(h:t.c≠0):Canon [t]:=⟨List.pairwise_singleton _ _,λu Q=>by rw[Yax.1 Q];exact h⟩
theorem NY{N M:Nat}:∀{P Q:List Tm},PSz P N->PSz Q M->PSz (Jq P Q) (N+M+1)
 |[],Q,_,h=>by simp only[Jq];exact h.mono ZbC
 |s::P,[],h,_=>by simp only[Jq];exact h.mono ZbC
 |s::P,t::Q,B,k=>by
  have H:PSz P N:=λu C=>B u (by simp[C]);have E:PSz Q M:=λu C=>k u (by simp[C])
  have o:∀{x:Tm} {L:List Tm},RSz x.c (N+M+1)->PSz L (N+M+1)->PSz (x::L) (N+M+1):=λq A u C=>by
   rcases YaL.1 C with rfl | C
   .exact q
   .exact A u C
  rw[Jq];split
  .exact o ((B s ZbR).mono ZbC) (NY H k)
  .split
   .exact o ((k t ZbR).mono ZbC) (NY B E)
   .split
    .exact NY H E
    .exact o ((B s ZbR).add (k t ZbR)) (NY H E)
termination_by P Q=>P.length+Q.length
theorem A8e(L:PIn vc a j)(k:PIn uj a j):PIn (Jq vc uj) a j:=λu Q=>by
 rcases Iu vc uj u Q with⟨s,q,e⟩ | ⟨s,q,e⟩
 .rw [<-e];exact L s q
 .rw [<-e];exact k s q
structure PB(P:List Tm)(n N:Nat)(d:Int):Prop where
 can:Canon P
 len:P.length<=n
 sz:PSz P N
 ex:PIn P 0 d
theorem PB.mono{n N B j:Nat}{d C:Int}(h:PB vc n N d)(q:n<=B)(A:N<=j)(K:d<=C):PB vc B j C:=⟨h.can,Yau h.len q,h.sz.mono A,h.ex.mono (YbP _) K⟩
theorem PB.nil{n N:Nat}{d:Int}:PB [] n N d:=⟨Canon.nil,Yay _,λt h=>ZdB,λt h=>ZdB⟩
theorem PB.add{P Q:List Tm}{n N q A:Nat}(h:PB P n N a)(k:PB Q q A j):PB (Jq P Q) (n+q) (N+A+1) (max a j):=
 ⟨Kc h.can k.can,by have:=KH P Q;have:=h.len;have:=k.len;omega,NY h.sz k.sz,A8e (h.ex.mono (YbP _) ZbC) (k.ex.mono (YbP _) ZbC)⟩
theorem A8v{f:Tm->Tm}(h:Dec vc)(p:∀s∈vc,∀t∈vc,0<lx s.m t.m->0<lx (f s).m (f t).m):Dec (vc.map f):=by
 refine List.pairwise_map.2 (List.Pairwise.imp_of_mem (λ{a b} q E K=>p a q b E K) h)
theorem A0A(t:vD≠0)(E:uV≠0):vD*uV≠0:=λe=>by
 rcases Rat.mul_eq_zero.1 e with h | h
 .exact t h
 .exact E h
theorem A39(G:vD≠0)(h:Canon vc):Canon (Ur vD vi vc):=⟨A8v h.1 λs _ t _ h=>by
 show 0<lx (CY vi s.m) (CY vi t.m);rwa [Vj vi,Vj vi,Aao],λt L=>by
 obtain⟨s,a,rfl⟩:=YaD.1 L;exact A0A G (h.2 s a)⟩
theorem A8R(t:In8 vi 0 a)(E:In8 vH 0 j):In8 (CY vi vH) 0 (a+j):=λi J=>by
 have:=t i J;have:=E i J;simp only[CY];omega
theorem A57{t:Tm}{n N k:Nat}{d d0:Int}(h:PB vc n N d)(G:t.c≠0)(a:RSz t.c k)(v:In8 t.m 0 d0):PB (Ur t.c t.m vc) n (k+N) (d0+d):=
 ⟨A39 G h.can, by rw [A0k]; exact h.len, Vz a h.sz, fun u Q => by
  obtain⟨s,a,rfl⟩:=YaD.1 Q;exact A8R v (h.ex s a)⟩
theorem A4s{t:Tm}{N:Nat}(h:t.c≠0)(q:RSz t.c N)(v:In8 t.m 0 a):PB [t] 1 N a:=⟨OO h,by simp,λu Q=>by rw[Yax.1 Q];exact q,λu Q=>by rw[Yax.1 Q];exact v⟩
theorem Abs.le{f:FuncId}{r r':D}(h:Abs P f v r)(Y:D.le r r'):Abs P f v r':=
 ⟨h.1,λs J q A K=>(h.2 s J q A K).mono λe N ⟨B,b,j,c,I,C⟩=>⟨B,b,j,c,I,Y _ _ C⟩⟩
structure HE where
 b:Nat
 T:TypeId
 ds:List D
def HB(s:GS)(e:HE):Prop:=e.T≠335/\(∀k,¬s.S e.b k)/\∃f:Array Value,s.w.heap[e.b]? = some (.cells f e.T (0,0))/\e.ds.length<=f.size/\∀k,k<e.ds.length->∃u,f[k]? = some u/\u.oneCell'=true/\(Dd e.ds k).rel s u
theorem HB.lt{s:GS}{e:HE}(h:HB s e):e.b<s.w.heap.size:=by
 obtain⟨_,_,f,q,_⟩:=h;exact Bv q
theorem HB.keep{s s':GS}{e:HE}(h:HB s e)(G:GS.Chg s s')(E:s'.w.heap[e.b]? = s.w.heap[e.b]? /\ ∀k,s'.S e.b k↔s.S e.b k):HB s' e:=by
 obtain⟨q,A,f,K,Q,C⟩:=h;refine⟨q,λk B=>A k ((E.2 k).1 B),f,E.1.trans K,Q,λk B=>?_⟩;obtain⟨u,F,g,x⟩:=C k B;exact⟨u,F,g,(Dd e.ds k).st x G⟩
def Lb(L:List HE):OD where
 rel s _:=(∀e∈L,HB s e)/\(L.map (·.b)).Nodup
 blk _ _ b:=∃e,e∈L/\e.b=b
 lt:=λ⟨h,_⟩ ⟨e,q,E⟩=>E▸(h e q).lt
 keep:=λ⟨h,A⟩ G E=>⟨⟨λe q=>(h e q).keep G (E e.b ⟨e,q,rfl⟩),A⟩,λ_ C=>C⟩
variable{uD:List HE}
theorem Mw{s:GS}{v:Value}(h:(Lb uD).rel s v):(∀e∈uD,HB s e)/\(uD.map (·.b)).Nodup:=h
abbrev pX(b off:Nat):D:=ex (.pointer (some ⟨b,off,none⟩))
abbrev sX(b len cap:Nat):D:=ex (.slice (some ⟨b,0,none⟩) len cap)
section
variable {P:Program} {hp:List Ow} {arg:Operand->AV} {dd:Option Tmp} {ty:TypeId} {ps:String} {af:Array Edge} {gd:Option (Nat×Bool)}
variable{ux:HE}
theorem A1t{n b id i off:Nat}(M:va.op=.load t x)(C:arg x=.d (pX ux.b off))(N:hp[id]? = some (.obj (Lb uD)))(J:uD[i]? = some ux)(L:Tab P t d n b z)(B:ES d=false)(G:CellAt ux.ds off r):Quiet P hp va arg (.d r):=by
 refine⟨λbase s V E I X Z h=>?_⟩;have q:=h x (by rw[M];simp[Op.operands]);rw[C]at q;have W:E x=.pointer (some ⟨ux.b,off,none⟩):=q;obtain⟨A,_⟩:=Mw (Z id _ N);obtain⟨_,_,f,K,Q,k⟩:=A ux (Yaz J);obtain⟨v,F,g,O⟩:=k off G.lt;rw[G.eq]at O;have S:s.w.cell? ⟨ux.b,off,none⟩=some v:=(CU K).trans F;refine BW (v:=v) ?_ ⟨GS.Le.refl s,O⟩;simp[execOp,M,W,Instr.loadAt,Instr.sureAddr,loadVar,L.run_agg,B,S]
theorem A8X{n b off:Nat}{e:HE}(id i:Nat)(C:arg x=.d (pX e.b off))(A:hp[id]? = some (.obj (Lb uD)))(J:uD[i]? = some e)(L:Tab P t d n b z)(q:ES d=false)(G:CellAt e.ds off r):Quiet P hp ⟨dd,.load t x,ty,ps,af,gd⟩ arg (.d r):=A1t rfl C A J L q G
end
theorem A5U(h:(uD.map (·.b)).Nodup){i j:Nat}{e G:HE}(J:uD[i]? = some e)(X:uD[j]? = some G)(E:e.b=G.b):i=j:=by
 obtain⟨q,A⟩:=Yae.1 J;obtain⟨K,Q⟩:=Yae.1 X;have:=Ycv.1 h;rcases Yci i j with I | I | I
 .have S:=this i j Zdv Zeh I
  rw[YdX,YdX,A,Q]at S;exact absurd E S
 .exact I
 .have S:=this j i Zeh Zdv I
  rw[YdX,YdX,A,Q]at S;exact absurd E.symm S
section
variable {P:Program} {s0:An} {n:Nat} {ops:Array Oper} {Q:Exit->AS->Prop} {rest:List Oper} {fr:List (Nat×AV)} {hp hp':List Ow} {ty:TypeId} {ps:String} {af:Array Edge}
variable{ux:HE}
theorem A0V{id i:Nat}{s:GS}(hst:StI s0 n ⟨fr,hp⟩ vl s vh)(d:hp[id]? = some (.obj (Lb uD)))(J:uD[i]? = some ux){W:World}{ds':List D}
  (xb:W.os=s.w.os) (U:W.tape=s.w.tape) (S:W.output=s.w.output) (Y:W.heap.size=s.w.heap.size) (t:∀b,b≠ux.b->W.heap[b]? = s.w.heap[b]?) (w:W.heap[ux.b]? = some (.cells vB ux.T (0,0))) (I:ds'.length<=vB.size)
  (R:∀k,k<ds'.length->∃u,vB[k]? = some u/\u.oneCell'=true/\(Dd ds' k).rel s u) (a:Gk hp id (.obj (Lb (uD.set i ⟨ux.b,ux.T,ds'⟩)))=some hp'):StI s0 n ⟨fr,hp'⟩ vl { s with w:=W } vh:=by
 obtain⟨q,H⟩:=Mw (hst.hp id _ d);have xa:=Yaz J;obtain⟨e,p,f,A,K,F⟩:=q ux xa
 have N : GS.Ok { s with w := W } := KW hst.ok (fun _ _ h => h) Zex (fun _ _ h => h) fun b ⟨c, Z, E⟩ => by
  by_cases L:b=ux.b
  .have E:W.heap[b]? = _:=E
   rw[L,w]at E;exact absurd (Obj.cells.inj (Yag E)).2.1 e
  .exact ⟨c,Z,(t b L).symm.trans E⟩
 have G : GS.Chg s { s with w := W } := ⟨by show _ ≤ W.heap.size; omega, fun _ _ h => h, fun b c T Z E => by
  by_cases L:b=ux.b
  .rw [L,A]at E
   cases E;exact⟨_,_,by rw[L];exact w,λk B=>absurd (L▸B) (p k)⟩
  .exact ⟨c,Z,(t b L).trans E,λ_ _=>rfl⟩⟩
 have l:(uD.set i ⟨ux.b,ux.T,ds'⟩).map (·.b)=uD.map (·.b):=by
  rw[Yes];apply YbX;intro j;rw[YbM];split
  .rename_i g
   subst g;rw[Yav,J];split
   .rfl
   .rename_i O
    exact absurd (by simpa using(Yae.1 J).1) O
  .rfl
 have r:=hst.upd (s':={ s with w:=W }) (ρ':=vh) (f:=λx=>x) (o':=.obj (Lb (uD.set i ⟨ux.b,ux.T,ds'⟩))) (hst.le.turn (hst.own id _ ux.b d ⟨ux,xa,rfl⟩) xb U S (λb _ E=>⟨t b E,λ_ h=>h⟩) G (λ_ _=>rfl) λ_=>N) N G d
  (λb _ E=>⟨t b λL=>E ⟨ux,xa,L.symm⟩,λ_=>Ydt⟩) (λ_ _=>rfl)
  (by
   refine⟨λx C=>?_,by rw[l];exact H⟩;obtain⟨j,X⟩:=List.mem_iff_getElem?.1 C;rw[YbM]at X;split at X
   .rename_i g
    split at X
    .cases X
     exact⟨e,p,vB,w,I,λk B=>by
      obtain⟨u,m,o,z⟩:=R k B;exact⟨u,m,o,(Dd ds' k).st z G⟩⟩
    .cases X
   .rename_i g
    refine(q x (Yaz X)).keep G ⟨t x.b λE=>g (A5U H J X E.symm),λ_=>Ydt⟩)
  (λb E=>.inl (by
   obtain⟨x,C,rfl⟩:=E;have:x.b∈(uD.set i ⟨ux.b,ux.T,ds'⟩).map (·.b):=YbU C;rw[l]at this;obtain⟨y,M,L⟩:=YaD.1 this;exact⟨y,M,L⟩)) λV v h=>h.chg G
 rw[Lz,IF,<-Ev a]at r;exact r
end
section
variable {P:Program} {s0:An} {n:Nat} {ops:Array Oper} {Q:Exit->AS->Prop} {rest:List Oper} {fr:List (Nat×AV)} {hp hp':List Ow} {ty:TypeId} {ps:String} {af:Array Edge}
theorem A7w{b off:Nat}{e:HE}{ds':List D}(id i:Nat)(C:AS.arg ⟨fr,hp⟩ x=.d (pX e.b off))(M:AS.arg ⟨fr,hp⟩ y=.d r)(X:hp[id]? = some (.obj (Lb uD)))(J:uD[i]? = some e)(L:Tab P t d 1 b z)(q:One hp (.d r))(G:SetAt e.ds off [r] ds')(F:Gk hp id (.obj (Lb (uD.set i ⟨e.b,e.T,ds'⟩)))=some hp')
  (h:AWl P s0 n ops Q rest ⟨fr,hp'⟩):AWl P s0 n ops Q (⟨none,.store t x y,ty,ps,af,none⟩::rest) ⟨fr,hp⟩:=by
 refine AWl.step rfl λs V a u K g=>?_;have w:=u.arg x;have H:=u.arg y;rw[C]at w;rw[M]at H;have W:a.eval x=.pointer (some ⟨e.b,off,none⟩):=w;obtain⟨o,-⟩:=Mw (u.hp id _ X);obtain⟨S,p,f,A,I,O⟩:=o e (Yaz J);have j:=G.le;simp only[Yat,Ybg]at j;have U:=q _ _ _ _ u.hp H;have Z:s.w.cell? ⟨e.b,off,none⟩=some (f[off]'(ZbC)):=(CU A).trans (YaF _);have v:s.w.frozen? ⟨e.b,off,none⟩=false:=Blk.frozen A off;have R:(a.eval y).cells=#[a.eval y]:=by cases N:a.eval y<;>first | rfl | (rw[N]at U;cases U)
 have m:(execOp a.eval ⟨none,.store t x y,ty,ps,af,none⟩).run P s.w=.ok .skip (s.w.setCell ⟨e.b,off,none⟩ (a.eval y)):=by
  have c:(store ⟨e.b,off,none⟩ (a.eval y)).run P s.w=.ok () (s.w.setCell ⟨e.b,off,none⟩ (a.eval y)):=by
   cases N:a.eval y<;>first | (rw[N]at U;cases U;done) | simp[store,Sem.run,Z,v]
  simp[execOp,W,Instr.storeAt,Instr.sureAddr,storeVar,R,L.run_size,storeCells,Addr.add_lit,c]
 unfold Oper.wp;rw[m]
 have l := A0V u X J (W := s.w.setCell ⟨e.b, off, none⟩ (a.eval y)) (ds' := ds') rfl rfl rfl (by simp [World.setCell]) (fun b E => Below.heap_setCell _ _ _ _ E) (Blk.set A off _)
  (by rw [← G.eq, Gy G.le]; simp; omega) (fun k B => by
   rw[<-G.eq,Gy G.le]at B;rw[<-G.eq,A5j G.le];by_cases Y:off<=k/\k<off+1
   .obtain rfl:k=off:=by omega
    rw[Yao ZbR];have T:k<f.size:=by omega
    refine⟨a.eval y,by simp[T],U,?_⟩;rw[Ydv];exact H
   .rw [Yaj (by simpa using Y), YaP ZbC]
    exact O k B) F
 exact g _ _ _ h ⟨_,V,rfl,l⟩
end
section
variable {P:Program} {hp:List Ow} {arg:Operand->AV} {dd:Option Tmp} {ty:TypeId} {ps:String} {af:Array Edge} {gd:Option (Nat×Bool)}
theorem A76{e n b F H g len cap k:Nat}(C:arg x=.d (sX g len cap))(M:arg y=.d (ex (.int i ((k:Nat):Int))))(L:Tab P t (.slice e) n b z)(E:Tab P e d F H u)(B:k<len):Quiet P hp ⟨dd,.indexAddr t x y,ty,ps,af,gd⟩ arg (.d (pX g (k*F))):=by
 refine⟨λbase s V G I v Z h=>?_⟩;have q:=h x ZcR;have A:=h y ZcR;rw[C]at q;rw[M]at A;have W:G x=.slice (some ⟨g,0,none⟩) len cap:=q;have o:G y=.int i ((k:Nat):Int):=A;refine BW (v:=.pointer (some ⟨g,k*F,none⟩)) ?_ ⟨GS.Le.refl s,rfl⟩;have c:(0:Int)<=((k:Nat):Int):=by omega
 have J:((k:Nat):Int)<(len:Int):=by omega
 simp[execOp,W,o,Instr.indexAt,asIntOf,run_underlying L.und,c,B,E.run_size,Addr.add_lit]
end
def Im(P:List Tm):Int:=P.foldl (λd t=>max d (Da t.m 8)) (-1)
theorem Va{k:Nat}(h:k<vc.length):Im (vc.take (k+1))=max (Im (vc.take k)) (Da (BA vc k).m 8):=UV (λd t=>max d (Da t.m 8)) (-1) h
theorem ZM(P:List Tm)(L:PIn P 0 65535)(g:P.length<=1000000):Abs prog 241 [BS P] (eI (Im P)):=by
 refine Ab func241 λy=>?_;rw[ntmps241];refine Go ?_;refine AC (λw e=>∃k,k<=P.length/\w=P.length-k/\e=⟨[(3,.d (eI (Im (P.take k)))),(6,.d (BS P)),(7,.d (eN P.length)),(8,.d (eN k))],[]⟩) ?le ⟨0,by omega,rfl,rfl⟩ ?round
 case le=>exact Zkk
 case round=>
  rintro w _ ⟨k,B,rfl,rfl⟩;by_cases O:k<P.length
  .have f:=L _ (DC O)
   have u:=Va O;have U:=YI (BA P k).m (f.mono ZbC ZbC);refine ZfT ?_;exact Ac (by exact FrLe.cons rfl (AVle.int u.symm)<|Yd<|Yd<|Yd<|FrLe.nil) Zcb
  .exact ZaR
theorem Xa(a:Nat->Int)(h:In8 a (-1000000) 1000000):Abs prog 153 [AP (CN a)] (eI (Da a 8)):=by
 refine Ab func153 λy=>?_;rw[ntmps153];refine Go ?_;refine AC (λw e=>∃k,k<=8/\w=8-k/\e=⟨[(1,.ptr 0 0),(3,.d (eI (Da a k))),(4,.d (eN k))],[.var 112 ((CN a).map .d)]⟩) ?le ⟨0,by omega,rfl,rfl⟩ ?round
 case le=>exact Ac Zcf ZcB
 case round=>
  rintro w _ ⟨k,B,rfl,rfl⟩;by_cases O:k<8
  .have I:=h k O
   have E:=Jl h k ZbC;refine Go ?_;exact Ziu
  .obtain rfl:k=8:=by omega
   exact Zfz
theorem A70(P:List Tm)(L:PIn P 0 65535)(g:P.length<=1000000):Abs prog 78 [BS P] (eI (Im P)):=by
 refine Ab func78 λy=>?_;rw[ntmps78];refine Go ?_;refine AC (λw e=>∃k,k<=P.length/\w=P.length-k/\e=⟨[(0,.d (BS P)),(3,.d (eI (Im (P.take k)))),(4,.d (eN k))],[]⟩) ?le ⟨0,by omega,rfl,rfl⟩ ?round
 case le=>exact Ac Zdb Zcb
 case round=>
  rintro w _ ⟨k,B,rfl,rfl⟩;by_cases O:k<P.length
  .have f:=L _ (DC O)
   have u:=Va O;have b:=Xa (BA P k).m (f.mono ZbC ZbC);refine ZfT ?_;exact Ac (by exact Yd<|FrLe.cons rfl (AVle.int u.symm)<|Yd<|FrLe.nil) Zcb
  .exact ZaR
theorem A6V(z:Int)(c:-128<=z)(q:z<=127):Abs prog 222 [ex (.int .i8 z)] (eN z.natAbs):=by
 by_cases n:z<0
 .refine Ab func222 λy=>?_
  rw[ntmps222]
  repeat (first | refine De rfl rfl ?_;refine⟨_,Ge (ao rfl) (Aa rfl) (Aa rfl) ZbC ZbC,?_⟩ | refine De rfl rfl ?_;refine⟨_,Tn (ao rfl) ZbC ZbC,?_⟩ | apply Ah | apply AWp.region | (refine De rfl rfl ?_;first | (apply Gx;refine⟨_,AG (ao rfl),?_⟩) | (apply GP;refine⟨_,Bm (ao rfl),?_⟩) | (apply Jf;refine⟨_,Hk rfl (ao rfl) (ao rfl) ZbN,?_⟩)) | apply AWl.nil | apply Yn | apply BR | apply Dv | (apply KV;refine Ct ?_))
  exact Zkq
 .refine Ab func222 λy=>?_
  rw[ntmps222]
  repeat (first | refine De rfl rfl ?_;refine⟨_,Ge (ao rfl) (Aa rfl) (Aa rfl) ZbC ZbC,?_⟩ | apply Ah | apply AWp.region | (refine De rfl rfl ?_;first | (apply Gx;refine⟨_,AG (ao rfl),?_⟩) | (apply GP;refine⟨_,Bm (ao rfl),?_⟩) | (apply Jf;refine⟨_,IA rfl (ao rfl) (ao rfl) ZbN,?_⟩)) | apply AWl.nil | apply Yn | apply Hl | apply BR | (apply KV;refine Cf ?_))
  exact Zkq
def lft(P:Int)(r:Nat->Int):Nat->Int
 |0=>P
 |j+1=>lft P r j-((r (j+1)).natAbs:Nat)%(lft P r j+1)
theorem A0R{P:Int}(r:Nat->Int)(h:0<=P):∀j,0<=lft P r j/\lft P r j<=P
 |0=>⟨h,YbP _⟩
 |j+1=>by
  have u:=A0R r h j;have q:=YeM ((r (j+1)).natAbs:Int) (show lft P r j+1≠0 by omega);have A:=Yev ((r (j+1)).natAbs:Int) (show 0<lft P r j+1 by omega);simp only[lft];omega
def SN(P:Int)(r:Nat->Int)(n:Nat):Nat->Int:=λj=>if j<n then((r (j+1)).natAbs:Nat)%(lft P r j+1)else 0
theorem A2L(r:Nat->Int)(h:0<=a)(n:Nat):In8 (SN a r n) 0 a:=λj _=>by
 unfold SN;have u:=A0R r h j;split
 .have q:=YeM ((r (j+1)).natAbs:Int) (show lft a r j+1≠0 by omega)
  have A:=Yev ((r (j+1)).natAbs:Int) (show 0<lft a r j+1 by omega);omega
 .omega
theorem A6q(P:Int)(r:Nat->Int)(k:Nat):RW (SN P r k) k (((r (k+1)).natAbs:Nat)%(lft P r k+1))=SN P r (k+1):=by
 funext j;simp only[RW,SN];rcases Yci j k with h | h | h
 .rw [Yaj ZbC,Yao h,Yao ZbC]
 .subst h;simp
 .rw [Yaj ZbC,Yaj ZbC,Yaj ZbC]
def A0z(P:Int)(n:Nat)(r:Nat->Int):List Tm:=XX ((Int.tmod (r 0) 4:Int):Rat) [⟨1,SN P r n⟩]
def No(P:Int)(n:Nat)(X:List (Nat->Int)):List Tm:=X.foldl (λa r=>Jq a (A0z P n r)) []
def A2A(X:List (Nat->Int))(n:Nat)(P:Int)(terms:Nat):List Tm:=No P (min n 4) (X.take (min X.length terms))
theorem A9n(z:Int):-3<=Int.tmod z 4/\Int.tmod z 4<=3:=by
 rcases Int.le_total 0 z with h | h
 .rw [Ycq h];omega
 .have:Int.tmod z 4=-((-z)%4):=by
   rw[<-Ycq ZbC,Int.neg_tmod,Int.neg_neg]
  omega
theorem A7V{n N k:Nat}(h:PB vc n N a)(q:RSz vD k):PB (XX vD vc) n (k+N) a:=by
 unfold XX;split
 .exact PB.nil
 .rename_i G
  have:=A57 (t:=⟨vD,λ_=>0⟩) (d0:=0) h G q λi _=>⟨YbP _,YbP _⟩;rwa [Int.zero_add]at this
theorem A5N(h:In8 vi 0 a):PB [⟨1,vi⟩] 1 1 a:=A4s (show(1:Rat)≠0 by decide) (rsz_one) h
where rsz_one:RSz (1:Rat) 1:=JG (x:=1) ZbC ZbC
theorem A2c(z:Int):RSz ((Int.tmod z 4:Int):Rat) 1:=by
 have:=A9n z;exact JG ZbC ZbC
theorem A2p(n:Nat)(r:Nat->Int)(h:0<=a):PB (A0z a n r) 1 2 a:=A7V (A5N (A2L r h n)) (A2c _)
theorem Pr{P:Int}{n:Nat}(h:0<=P):∀(X:List (Nat->Int)) (A:List Tm) (k K:Nat),PB A k K P->PB (X.foldl (λa r=>Jq a (A0z P n r)) A) (k+X.length) (K+X.length*3) P
 |[],A,k,K,h=>h
 |r::X,A,k,K,I=>by
  have q:=(I.add (A2p n r h)).mono (Yai _) (Yai _) (Int.max_le.2 ⟨YbP _,YbP _⟩);have:=Pr (n:=n) h X _ _ _ q;exact this.mono ZiI ZiI (YbP _)
theorem A61(X:List (Nat->Int))(n:Nat)(O:Nat)(h:0<=a):PB (A2A X n a O) O (O*3) a:=by
 have:=Pr (n:=min n 4) h (X.take (min X.length O)) [] 0 0 PB.nil;have I:(X.take (min X.length O)).length<=O:=ZgV
 exact this.mono ZbC ZbC (YbP _)
theorem Su(X:List (Nat->Int))(n:Nat){terms k:Nat}(h:0<=a)(B:k<=terms):PB (No a n (X.take k)) terms (terms*3) a:=by
 have:=Pr (n:=n) h (X.take k) [] 0 0 PB.nil;have I:(X.take k).length<=terms:=ZgV
 exact this.mono ZbC ZbC (YbP _)
theorem A6n(f:e->(Nat->Int)->e)(b:e){X:List (Nat->Int)}{k:Nat}(h:k<X.length):(X.take (k+1)).foldl f b=f ((X.take k).foldl f b) (Hp X k):=by
 have q:X.take (k+1)=X.take k++[Hp X k]:=by
  rw[YcX,Yab h,Hp,Yaa,Yab h];rfl
 rw[q,YeD];rfl
def A4e(X:List (Nat->Int)):Prop:=∀r∈X,∀j,j<5->-128<=r j/\r j<=127
theorem A4g(T:Nat)(X:List (Nat->Int))(n terms:Nat)(P:Int)(f:A4e X)(g:n<=8)(L:terms<=1000)(c:0<=P)(d:P<=1000):Abs prog 126 [AP [r5D T X],eN n,eI P,eN terms] (BS (A2A X n P terms)):=by
 refine Ab func126 λy=>?_;rw[ntmps126]
 repeat (first | apply Ah | apply AWp.region | (apply A7s;refine Bx ?_) | (apply A9L;refine TD (Aa rfl) (Aa rfl) rfl rfl rfl rfl rfl ?_) | (refine De rfl rfl ?_;(apply GP;refine⟨_,Bm (ao rfl),?_⟩)) | apply AWl.nil | apply Yn | apply AWp.block)
 refine AC (λw e=>∃k,k<=min X.length terms/\w=min X.length terms-k/\e=⟨[(1,.d (eN n)),(2,.d (eI P)),(3,.d (eN terms)),(4,.ptr 0 0),(9,.d (BS (No P (min n 4) (X.take k)))),(10,.d (eN k))],[.var 212 ([r5D T X].map .d)]⟩) ?le ⟨0,by omega,rfl,rfl⟩ ?round
 case le=>exact Ac (by repeat (first | exact FrLe.nil | refine Yd ?_ | refine Yp ?_ | refine FrLe.cons rfl (Gi rfl (D.le.refl _)) ?_)) ZdM
 case round=>
  rintro w _ ⟨k,B,rfl,rfl⟩;by_cases O:k<min X.length terms
  .have N:k<X.length:=by omega
   have V:k<terms:=by omega
   repeat (first | apply Ah | apply AWp.region | (apply ZS;refine Al ?_) | (apply Tu;refine Sf ?_) | (refine De rfl rfl ?_;first | (apply Gx;refine⟨_,AG (ao rfl),?_⟩) | (apply GP;refine⟨_,Bm (ao rfl),?_⟩) | (apply Rx;refine⟨_,BU (ao rfl) rfl (Aa rfl) rfl rfl,?_⟩) | (apply IC;refine⟨_,Iz (ao rfl) (Aa rfl) rfl (Aa rfl) rfl,?_⟩) | (apply A1N;refine⟨_,Bh rfl (Aa rfl),?_⟩) | (apply Jf;refine⟨_,Hk rfl (ao rfl) (ao rfl) ZbN,?_⟩) | (apply OL;refine⟨_,Id (ao rfl) (ao rfl),?_⟩) | (apply ZR;(refine Mh (Aa rfl) (Aa rfl) rfl rfl ?_;(repeat ((first | refine⟨_,Ar (ao rfl),?_⟩ | refine⟨_,Po rfl,?_⟩);refine⟨_,rfl,?_⟩));refine⟨_,rfl,?_⟩))) | (refine Qc rfl rfl rfl rfl rfl ?_;first | (apply Gx;refine⟨_,AG (ao rfl),?_⟩) | (apply Jf;refine⟨_,Hk rfl (ao rfl) (ao rfl) ZbN,?_⟩)) | apply AWl.nil | apply Yn | apply AWp.block | apply Hl | (apply KV;refine Ct ?_))
   refine AC (λw e=>∃i,i<=min n 4/\w=min n 4-i/\e=⟨[(1,.d (eN n)),(2,.d (eI P)),(3,.d (eN terms)),(4,.ptr 0 0),(9,.d (BS (No P (min n 4) (X.take k)))),(10,.d (eN k)),(11,.ptr 1 0),(12,.d (eI (lft P (Hp X k) i))),(13,.d (eN i))],[.var 212 ([r5D T X].map .d),.var 112 ((CN (SN P (Hp X k) i)).map .d)]⟩) ?lei ⟨0,by omega,rfl,rfl⟩ ?roundi
   case lei=>exact Ac (by repeat (first | exact FrLe.nil | refine Yd ?_ | refine Yp ?_)) ZdM
   case roundi=>
    rintro w _ ⟨i,J,rfl,rfl⟩;by_cases b:i<min n 4
    .have I:=A0R (Hp X k) c i
     have Y:=f _ (YR N) (i+1) ZbC;have A:RW (SN P (Hp X k) i) i (((Hp X k (i+1)).natAbs:Nat)%(lft P (Hp X k) i+1)) i=((Hp X k (i+1)).natAbs:Nat)%(lft P (Hp X k) i+1):=Yao rfl;have S:=YeM ((Hp X k (i+1)).natAbs:Int) (show lft P (Hp X k) i+1≠0 by omega);have F:=Yev ((Hp X k (i+1)).natAbs:Int) (show 0<lft P (Hp X k) i+1 by omega)
     repeat (first | refine De rfl rfl ?_;refine⟨_,OG (ao rfl) (ao rfl) ZbC,?_⟩ | refine De rfl rfl ?_;refine⟨_,Ie (ao rfl) (Aa rfl) rfl (A4F (show i+1<5 by omega)),?_⟩ | apply Ah | apply AWp.region | (apply Tu;refine Mj (ao rfl) (ao rfl) rfl (Aa rfl) ZbS (SetAt.mon ZbQ) rfl ?_) | (refine De rfl rfl ?_;first | (apply Gx;refine⟨_,AG (ao rfl),?_⟩) | (apply GP;refine⟨_,Bm (ao rfl),?_⟩) | (apply Rx;first | refine⟨_,BU (ao rfl) rfl (Aa rfl) rfl rfl,?_⟩ | refine⟨_,MJ (ao rfl) rfl (Aa rfl) rfl (JB ZbQ),?_⟩) | (apply IC;refine⟨_,Iz (ao rfl) (Aa rfl) rfl (Aa rfl) rfl,?_⟩) | (apply OM;first | refine⟨_,CE rfl (ao rfl) (Aa rfl) (Aa rfl) rfl ZbQ,?_⟩ | refine⟨_,Nx (ao rfl) (ao rfl) (Aa rfl) (Aa rfl) ZbQ,?_⟩ | refine⟨_,Md (ao rfl) (ao rfl) (Aa rfl) (Aa rfl) ZbQ,?_⟩) | (apply A1O;first | refine⟨_,HU (ao rfl) (ao rfl) ZbC,?_⟩ | refine⟨_,PW (ao rfl) (ao rfl) ZbC ZbC,?_⟩) | (apply A7i;refine⟨_,PP (ao rfl) (ao rfl) ZbC ZbC,?_⟩) | (apply A7k;refine⟨_,Tl (ao rfl) (ao rfl) ZbC ZbC,?_⟩) | (apply Jf;refine⟨_,Hk rfl (ao rfl) (ao rfl) ZbN,?_⟩) | (apply OL;refine⟨_,Id (ao rfl) (ao rfl),?_⟩) | (apply ZQ;refine⟨_,BO (ao rfl) (A6V (Hp X k (i+1)) Y.1 Y.2) ZbU,?_⟩)) | (refine Qc rfl rfl rfl rfl rfl ?_;first | (apply Gx;refine⟨_,AG (ao rfl),?_⟩) | (apply Jf;refine⟨_,Hk rfl (ao rfl) (ao rfl) ZbN,?_⟩)) | apply AWl.nil | apply Yn | apply AWp.block | apply Hl | apply Bg | (apply KV;refine Ct ?_))
     refine Ai (min n 4-(i+1)) ZbC ⟨i+1,by omega,rfl,rfl⟩ ?_;exact Ac (by repeat (first | exact FrLe.nil | refine Yd ?_ | refine Yp ?_ | refine FrLe.cons rfl (AVle.int (by rw[A];rfl)) ?_)) (by repeat (first | exact HpLe.nil | refine HpLe.cons (OwLe.varD (by rw[A6q])) ?_ | apply Yv))
    .obtain rfl:i=min n 4:=by omega
     have Z:=YR N;have K:=f _ Z 0 ZbC;have Q:=A9n (Hp X k 0);have x:-3<=Int.tmod (X.getD k default 0) 4/\Int.tmod (X.getD k default 0) 4<=3:=Q;have E:=Su X (min n 4) (terms:=terms) c (Yca V);have G:=E.len;have L:=A2p (min n 4) (Hp X k) c;have M:=L.len;have q:=A5N (A2L (Hp X k) c (min n 4));have C:(Hp X k 0).tmod 4=IntKind.i64.wrap ((Hp X k 0).tmod 4):=(IntWalk.i64_in _ ZbC).symm;have u:No P (min n 4) (X.take (k+1))=Jq (No P (min n 4) (X.take k)) (A0z P (min n 4) (Hp X k)):=A6n (λa r=>Jq a (A0z P (min n 4) r)) [] N;rcases(show n<=4\/4<n by omega)with W | W
     all_goals
      repeat (first | apply Ah | apply AWp.region | (refine De rfl rfl ?_;first | (apply Gx;refine⟨_,AG (ao rfl),?_⟩) | (apply Jf;first | refine⟨_,Hk rfl (ao rfl) (ao rfl) ZbN,?_⟩ | refine⟨_,IA rfl (ao rfl) (ao rfl) ZbN,?_⟩) | (apply OL;first | refine⟨_,Id (ao rfl) (ao rfl),?_⟩ | refine⟨_,Kn (ao rfl) (ao rfl),?_⟩)) | refine TC rfl rfl rfl rfl rfl ?_ | (refine Qc rfl rfl rfl rfl rfl ?_;first | (apply Gx;refine⟨_,AG (ao rfl),?_⟩) | (apply Jf;refine⟨_,IA rfl (ao rfl) (ao rfl) ZbN,?_⟩)) | apply AWl.nil | apply Yn | apply Cc | apply Bz | apply BE | apply BM | (apply KV;refine Cf ?_))
      refine Dy 16 ?_
      repeat (first | refine⟨_,rfl,?_⟩ | (apply XA;(refine Xq (AG (ah rfl)) ?_)) | (apply XB;first | (refine Xq (Mc (ah rfl) rfl (Aa rfl) rfl rfl) ?_) | (refine Xq (BU (ah rfl) rfl (Aa rfl) rfl rfl) ?_) | (refine Xq (Gv (ah rfl) (Aa rfl) rfl rfl) ?_)) | (apply KU;(refine Xq (Iz (ah rfl) (Aa rfl) rfl (Aa rfl) rfl) ?_)) | (apply KT;first | (refine Xq (CE rfl (ah rfl) (Aa rfl) (Aa rfl) rfl ZbQ) ?_) | (refine Xq (Xu (ah rfl) (ah rfl) (Aa rfl) (Aa rfl) ZbH ZbH rfl) ?_)) | (apply A1Q;(refine Xq (Rp (ah rfl) (ah rfl) ZbH) ?_)) | (apply Qb;(refine Xq (Cb (ah rfl) (Aa rfl) (Aa rfl) rfl rfl rfl rfl rfl) ?_)) | (apply XC;(refine Xq (Ge (ah rfl) (Aa rfl) (Aa rfl) ZbC ZbC) ?_)) | (apply Tt;(refine Hq rfl ?_;refine AI (Aa rfl) rfl rfl rfl ?_;(repeat ((first | refine⟨_,Ar (ah rfl),?_⟩ | refine⟨_,Po rfl,?_⟩);refine⟨_,rfl,?_⟩));refine⟨_,rfl,?_⟩;refine⟨_,rfl,?_⟩)) | (apply Ts;first | (refine Xq (BO (ah rfl) (Fa ((Hp X k 0).tmod 4) ZbC ZbC) ZbU) ?_) | (refine Xq (BO (ah rfl) (Fa 1 ZbC ZbC) ZbU) ?_) | (refine Xq (BO (ah rfl) (A1i ((Int.tmod (Hp X k 0) 4:Int):Rat) [⟨1,SN P (Hp X k) (min n 4)⟩] 1 1 (A2c _) q.sz (q.ex.mono (YbP _) ZbC) ZbR ZbC) ZbU) ?_) | (refine Xq (BO (ah rfl) (A71 (No P (min n 4) (X.take k)) (A0z P (min n 4) (Hp X k)) (terms*3) 2 E.sz L.sz ZbC ZbC) ZbU) ?_)))
      repeat (first | apply AWp.region | (refine De rfl rfl ?_;first | (apply Gx;refine⟨_,AG (ao rfl),?_⟩) | (apply GP;refine⟨_,Bm (ao rfl),?_⟩) | (apply A1O;refine⟨_,HU (ao rfl) (ao rfl) ZbC,?_⟩)) | apply AWl.nil | apply Yn | apply Bg)
      refine Ai (min X.length terms-(k+1)) ZbC ⟨k+1,by omega,rfl,rfl⟩ ?_;exact Ac (by repeat (first | exact FrLe.nil | refine Yd ?_ | refine Yp ?_ | refine FrLe.cons rfl (AVle.le (Tx u.symm)) ?_)) ZdM
  .obtain rfl:k=min X.length terms:=by omega
   rcases(show X.length<=terms\/terms<X.length by omega)with L | L
   all_goals
    repeat (first | apply Ah | apply AWp.region | (refine De rfl rfl ?_;first | (apply Gx;refine⟨_,AG (ao rfl),?_⟩) | (apply GP;refine⟨_,Bm (ao rfl),?_⟩) | (apply Rx;refine⟨_,BU (ao rfl) rfl (Aa rfl) rfl rfl,?_⟩) | (apply IC;refine⟨_,Iz (ao rfl) (Aa rfl) rfl (Aa rfl) rfl,?_⟩) | (apply A1N;refine⟨_,Bh rfl (Aa rfl),?_⟩) | (apply Jf;first | refine⟨_,Hk rfl (ao rfl) (ao rfl) ZbN,?_⟩ | refine⟨_,IA rfl (ao rfl) (ao rfl) ZbN,?_⟩) | (apply OL;first | refine⟨_,Id (ao rfl) (ao rfl),?_⟩ | refine⟨_,Kn (ao rfl) (ao rfl),?_⟩)) | refine TC rfl rfl rfl rfl rfl ?_ | (refine Qc rfl rfl rfl rfl rfl ?_;first | (apply Gx;refine⟨_,AG (ao rfl),?_⟩) | (apply Jf;refine⟨_,IA rfl (ao rfl) (ao rfl) ZbN,?_⟩)) | apply AWl.nil | apply Yn | apply Cc | apply BR | apply Bz | apply BE | apply BM | (apply KV;refine Cf ?_))
    exact Yf
theorem Aas{z:Int}(c:-100000<=z)(q:z<=100000):(Aw z.natAbs).length<=1:=Ke Zer
def Ip(s t:Tm):Int:=if OS s.m t.m=true then IR s.c t.c else Iv s.m t.m
def Db:List Tm->List Tm->Int
 |[],[]=>0
 |[],_::_=>-1
 |_::_,[]=>1
 |s::P,t::Q=>if Ip s t=0 then Db P Q else Ip s t
theorem ZV(s t:Tm)(a:RSz s.c 1000000000)(L:RSz t.c 1000000000):Abs prog 296 [AP (QW s),AP (QW t)] (eI (Ip s t)):=by
 cases h:OS s.m t.m with
 |true=>
  have e:Ip s t=IR s.c t.c:=Yao h;refine Ab func296 λy=>?_;rw[ntmps296];have U:=NP s.c t.c a L;exact Zji
 |false=>
  have e:Ip s t=Iv s.m t.m:=Yaj (by rw[h];decide);refine Ab func296 λy=>?_;rw[ntmps296];have b:=Sw s.m t.m;exact Zji
theorem Pi{k:Nat}(q:k<vc.length)(A:k<uj.length):Db (vc.drop k) (uj.drop k)=if Ip (BA vc k) (BA uj k)=0 then Db (vc.drop (k+1)) (uj.drop (k+1))else Ip (BA vc k) (BA uj k):=by
 rw[Hf q,Hf A,Db]
theorem XE(P Q:List Tm)(A:PSz P 1000000000)(C:PSz Q 1000000000)(g:P.length<=1000000)(v:Q.length<=1000000):Abs prog 295 [BS P,BS Q,ex (.func (.func 296) #[] #[])] (eI (Db P Q)):=by
 refine Ab func295 λy=>?_;rw[ntmps295];refine Go ?_;refine AC (λw q=>∃k,k<=P.length/\k<=Q.length/\Db P Q=Db (P.drop k) (Q.drop k)/\w=P.length-k/\q=⟨[(0,.d (BS P)),(1,.d (BS Q)),(2,.d (ex (.func (.func 296) #[] #[]))),(11,.d (BS P)),(12,.d (eN P.length)),(13,.d (eN k))],[]⟩) ?le ⟨0,by omega,by omega,rfl,rfl,rfl⟩ ?round
 case le=>exact Ac Zds Zcb
 case round=>
  rintro m _ ⟨k,B,I,heq,rfl,rfl⟩;by_cases O:k<P.length
  .by_cases E:k<Q.length
   .have a:=A _ (DC O)
    have L:=C _ (DC E);have d:=Pi O E;by_cases n:Ip (BA P k) (BA Q k)=0
    .rw [Yao n]at d
     have s:=ZV (BA P k) (BA Q k) a L;refine Go ?_;refine Ai (P.length-(k+1)) ZbC ⟨k+1,by omega,by omega,by rw[heq,d],rfl,rfl⟩ ?_;exact Ac Zds Zcb
    .rw [Yaj n]at d
     have V:=ZV (BA P k) (BA Q k) a L;refine Go ?_;exact AA (Am (ResV.tmp rfl rfl) (Ae (by rw[heq,d])))
   .have e:Db P Q=1:=by
     exact Zkr
    refine Go ?_;exact AA (Am (ResV.tmp rfl rfl) (Ae Zez))
  .have F:P.drop k=[]:=YaN ZbC
   by_cases E:k<Q.length
   .have e:Db P Q=-1:=by
     rw[heq,F,Hf E,Db]
    refine Go ?_;exact AA (Am (ResV.tmp rfl rfl) (Ae Zez))
   .have e:Db P Q=0:=by
     exact Zks
    refine Go ?_;exact AA (Am (ResV.tmp rfl rfl) (Ae Zez))
theorem A7e(P Q:List Tm)(L:PSz P 1000000000)(k:PSz Q 1000000000)(g:P.length<=1000000)(v:Q.length<=1000000):Abs prog 243 [BS P,BS Q] (eI (Db P Q)):=by
 refine Ab func243 λy=>?_;rw[ntmps243];have M:=XE P Q L k g v;exact Zfz
theorem A2r:IR vD uV<=0↔vD<=uV:=by
 rw[IR,Int.sign_nonpos_iff,Rat.le_iff];omega
theorem A3n:IR vD uV=0↔vD=uV:=by
 rw[IR,Ydq,Rat.eq_iff_mul_eq_mul];omega
theorem A5C(p q:Rat):IR q p=-IR p q:=by
 rw[IR,IR,<-Int.sign_neg];exact Zhl
theorem QY{s t:Tm}(h:Eqv s.m t.m):Ip s t=IR s.c t.c:=Yao (IX.2 h)
theorem QX{s t:Tm}(h:¬Eqv s.m t.m):Ip s t=lx s.m t.m:=by rw[Ip,Yaj λb=>h (IX.1 b),Np]
theorem A5a(s t:Tm):Ip t s=-Ip s t:=by
 by_cases h:Eqv s.m t.m
 .rw [QY h,QY h.symm];exact A5C _ _
 .rw [QX h,QX λb=>h b.symm];exact A69 _ _
theorem Ut{s t:Tm}:Ip s t=0↔s.c=t.c/\Eqv s.m t.m:=by
 by_cases h:Eqv s.m t.m
 .rw [QY h,A3n];exact⟨λe=>⟨e,h⟩,λe=>e.1⟩
 .rw [QX h]
  exact⟨λe=>absurd (Ri.1 e) h,λe=>absurd e.2 h⟩
theorem Yk:∀P Q:List Tm,Db Q P=-Db P Q
 |[],[]=>by simp[Db]
 |[],_::_=>by simp[Db]
 |_::_,[]=>by simp[Db]
 |s::P,t::Q=>by
  have h:=A5a s t;rw[Db,Db];by_cases c:Ip s t=0
  .rw [Yao c,Yao ZbC,Yk P Q]
  .rw [Yaj c,Yaj ZbC,h]
theorem Mn:∀{P Q:List Tm},Db P Q=0↔SameL P Q
 |[],[]=>by simp[Db,SameL]
 |[],_::_=>by simp[Db,SameL]
 |_::_,[]=>by simp[Db,SameL]
 |s::P,t::Q=>by
  have u:=Mn (P:=P) (Q:=Q);have h:=Ut (s:=s) (t:=t);rw[Db];by_cases c:Ip s t=0
  .rw [Yao c,u]
   have:=h.1 c;exact⟨λe=>⟨this.1,this.2,e⟩,λe=>e.2.2⟩
  .rw [Yaj c]
   exact⟨λe=>absurd e c,λe=>absurd (h.2 ⟨e.1,e.2.1⟩) c⟩
theorem Yl(h:Db vc uj=0):vc.length=uj.length:=(Mn.1 h).length
theorem A44(s t:Tm)(a:RSz s.c 1000000000)(L:RSz t.c 1000000000):Abs prog 135 [AP (QW s),AP (QW t)] (eB (decide (Ip s t=0))):=by
 cases h:OS s.m t.m with
 |true=>
  have e:Ip s t=IR s.c t.c:=Yao h;by_cases m:IR s.c t.c=0
  .have d:decide (Ip s t=0)=true:=Yal (e.trans m)
   refine Ab func135 λy=>?_;rw[ntmps135];have U:=NP s.c t.c a L;exact Zhi
  .have d:decide (Ip s t=0)=false:=Yad (by rw [e]; exact m)
   refine Ab func135 λy=>?_;rw[ntmps135];have q:=NP s.c t.c a L;exact Zhi
 |false=>
  have g:¬Eqv s.m t.m:=λb=>by rw[IX.2 b]at h;cases h
  have d:decide (Ip s t=0)=false:=Yad λe=>g (Ut.1 e).2;refine Ab func135 λy=>?_;rw[ntmps135];exact Zhi
theorem A1S(P Q:List Tm)(A:PSz P 1000000000)(C:PSz Q 1000000000)(g:P.length<=1000000)(v:Q.length<=1000000):Abs prog 134 [BS P,BS Q,ex (.func (.func 135) #[] #[])] (eB (decide (Db P Q=0))):=by
 by_cases o:P.length=Q.length
 .refine Ab func134 λy=>?_
  rw[ntmps134];refine Go ?_;refine AC (λw q=>∃k,k<=P.length/\Db P Q=Db (P.drop k) (Q.drop k)/\w=P.length-k/\q=⟨[(1,.d (BS Q)),(2,.d (ex (.func (.func 135) #[] #[]))),(15,.d (BS P)),(16,.d (eN P.length)),(17,.d (eN k))],[]⟩) ?le ⟨0,by omega,rfl,rfl,rfl⟩ ?round
  case le=>exact Zkt
  case round=>
   rintro m _ ⟨k,B,heq,rfl,rfl⟩;by_cases O:k<P.length
   .have F:k<Q.length:=by omega
    have a:=A _ (DC O);have L:=C _ (DC F);have d:=Pi O F;have K:=A44 (BA P k) (BA Q k) a L;by_cases n:Ip (BA P k) (BA Q k)=0
    .rw [Yao n]at d
     rw[Yal n]at K;refine Go ?_;refine Ai (P.length-(k+1)) ZbC ⟨k+1,by omega,by rw[heq,d],rfl,rfl⟩ ?_;exact Zkt
    .rw [Yaj n]at d
     rw[Yad n]at K;have b:decide (Db P Q=0)=false:=Yad (by rw[heq,d];exact n);exact ZiX
   .have b:decide (Db P Q=0)=true:=Yal (by
     rw[heq,(YaN ZbC:P.drop k=[]),(YaN ZbC:Q.drop k=[]),Db])
    refine Go ?_;exact AA (Am (ResV.tmp rfl rfl) (Ae (by rw[b])))
 .have b:decide (Db P Q=0)=false:=Yad λe=>o (Yl e)
  refine Ab func134 λy=>?_;rw[ntmps134];exact ZiX
theorem Vp(P Q:List Tm)(L:PSz P 1000000000)(k:PSz Q 1000000000)(g:P.length<=1000000)(v:Q.length<=1000000):Abs prog 65 [BS P,BS Q] (eB (decide (Db P Q=0))):=by
 refine Ab func65 λy=>?_;rw[ntmps65];have s:=A1S P Q L k g v;exact Zfz
section
variable {P:Program} {hp:List Ow} {arg:Operand->AV} {dd:Option Tmp} {ty:TypeId} {ps:String} {af:Array Edge} {gd:Option (Nat×Bool)}
end
theorem A3J (a b : Nat → Int) (w : World) : (do eqGuard .eql 36 x y (.agg (c8 a)) (.agg (c8 b)); binOp .eql 36 (.agg (c8 a)) (.agg (c8 b)) : Sem Value).run prog w = .ok (.bool (OS a b)) w := by
 have heq:(Op.equalIn Op.maxDepth 36 (.agg (c8 a)) (.agg (c8 b))).run prog w=.ok (OS a b) w:=A0v a b w;simp[eqGuard,binOp,Op.equal,heq]
section
variable {hp:List Ow} {arg:Operand->AV} {dd:Option Tmp} {ty:TypeId} {ps:String} {af:Array Edge} {gd:Option (Nat×Bool)}
theorem A79{a b:Nat->Int}(C:arg x=.d (AP (CN a)))(M:arg y=.d (AP (CN b))):Quiet prog hp ⟨dd,.binOp .eql 36 x y t,ty,ps,af,gd⟩ arg (.d (eB (OS a b))):=
 Jd rfl C M (λ_ _ h=>Dr h) (λ_ _ h=>Dr h) λw=>A3J a b w
end
inductive HY
 |av (r:AV)
 |new (T:TypeId) (cs:List Value)
 |newS (T:TypeId) (k:Nat) (ds:List D)
 |st (j:Nat)
def HY.hr:HY->HR
 |.av r=>.av r
 |_=>.av (.d Cs)
def HYStep(P:Program)(e:AS)(rs:List HY)(q:List (Nat×Nat))(i:Nat)(o:Oper):HY->Prop
 |.av r=>o.guard=none/\Quiet P e.hp o (DN e (rs.map HY.hr) q) r
 |.new T f=>HStep P e [] q o (.new T f)
 |.newS T k S=>(∃f,HStep P e [] q o (.new T f)/\f.length=S.length)/\rs[k]? = some (.st i)
 |.st j=>o.guard=none/\o.dst=none/\∃T x y A S d b z,o.op=.store T (.tmp x) y/\(x,j)∈q/\rs[j]? = some (.newS A i S)/\DN e (rs.map HY.hr) q y=.d (AP S)/\Tab P T d S.length b z
def HYSteps(P:Program)(e:AS)(rs:List HY):Nat->List Oper->List (List (Nat×Nat))->List HY->Prop
 |i,o::L,x::S,r::T=>HYStep P e rs x i o r/\HYSteps P e rs (i+1) L S T
 |_,[],[],[]=>True
 |_,_,_,_=>False
theorem HYSteps.at{P:Program}{σ:AS}{rs:List HY}:∀{L:List Oper} {S:List (List (Nat×Nat))} {T:List HY} {i:Nat},HYSteps P σ rs i L S T->L.length=S.length/\L.length=T.length/\∀(k:Nat) o x r,L[k]? = some o->S[k]? = some x->T[k]? = some r->HYStep P σ rs x (i+k) o r
 |[],[],[],i,_=>⟨rfl,rfl,λk o x r h=>by simp at h⟩
 |[],[],_::_,i,h=>h.elim
 |[],_::_,T,i,h=>by cases T<;>exact h.elim
 |_::_,[],T,i,h=>by cases T<;>exact h.elim
 |_::_,_::_,[],i,h=>h.elim
 |o::L,x::S,r::T,i,⟨q,A⟩=>by
  obtain⟨W,B,H⟩:=HYSteps.at A;refine⟨by simp[W],by simp[B],λk E N F s C Y=>?_⟩
  cases k with
  |zero=>
   simp at s C Y;subst s;subst C;subst Y;exact q
  |succ k=>
   simp at s C Y;have:=H k E N F s C Y;rw[show i+(k+1)=i+1+k by omega];exact this
def AS.aftS(e:AS):List Oper->List HY->AS
 |o::L,.av r::d=>AS.aftS (e.put o.dst r) L d
 |o::L,.new T f::d=>AS.aftS (e.new o.dst (.ptr e.hp.length 0) (.var T (exs f))) L d
 |o::L,.newS T _ S::d=>AS.aftS (e.new o.dst (.ptr e.hp.length 0) (.var T (S.map .d))) L d
 |_::L,.st _::d=>AS.aftS e L d
 |_,_=>e
def SFact(m:Nat)(ρ:Nat->Value)(W:Nat)(done:Nat->Bool)(i:Nat):HY->Value->GS->Prop
 |.av r=>λv s=>AVr m ρ s r v
 |.new T f=>HFact m ρ W i (.new T f)
 |.newS T k S=>λv s=>∃b f,v=.pointer (some ⟨b,0,none⟩)/\W<=b/\s.w.heap[b]? = some (.cells f T (0,0))/\(∀k,¬s.S b k)/\s.tag b=i+1/\T≠335/\f.size=S.length/\(done k=true->∀j,j<S.length->∃u,f[j]? = some u/\u.oneCell'=true/\(Dd S j).rel s u)
 |.st _=>λ_ _=>True
theorem SFact.st{m:Nat}{ρ:Nat->Value}{W i:Nat}{r:HY}{v:Value}{s s':GS}(I:GS.Le s s')(B:∀T k S,r=.newS T k S->xc k=vX k)(h:SFact m ρ W vX i r v s):SFact m ρ W xc i r v s':=by
 cases r with
 |av r=>exact AVr.chg h I.chg
 |new T f=>exact HFact.st (m:=m) (ρ:=ρ) (W:=W) (i:=i) (r:=.new T f) v s s' I h
 |newS T k S=>
  obtain⟨b,f,q,A,K,Q,E,F,g,x⟩:=h;refine⟨b,f,q,A,(I.ext.block (Bv K)).trans K,λk B=>Q k (I.old b k (Bv K) B),(I.tag b (Bv K)).trans E,F,g,λd j X=>?_⟩;rw[B T k S rfl]at d;obtain⟨u,C,o,H⟩:=x d j X;exact⟨u,C,o,(Dd S j).st H I.chg⟩
 |st j=>trivial
theorem SFact.turn{m:Nat}{W i g tg:Nat}{r:HY}{v:Value}{s s':GS}(G:GS.Chg s s')(N:∀b,b≠g->s'.w.heap[b]? = s.w.heap[b]?)(p:∀b k,s'.S b k->s.S b k)(L:∀b,s'.tag b=s.tag b)(R:s.tag g=tg+1)(M:i≠tg)(B:∀T k S,r=.newS T k S->xc k=vX k)(h:SFact m vh W vX i r v s):SFact m vh W xc i r v s':=by
 cases r with
 |av r=>exact AVr.chg h G
 |new T f=>
  obtain⟨b,q,A,K,Q,F,I,J⟩:=h;have E:b≠g:=λe=>by rw[e,R]at F;omega
  exact⟨b,q,A,(N b E).trans K,λk B=>Q k (p b k B),(L b).trans F,I,J⟩
 |newS T k S=>
  obtain⟨b,f,q,A,K,Q,F,I,J,x⟩:=h;have E:b≠g:=λe=>by rw[e,R]at F;omega
  refine⟨b,f,q,A,(N b E).trans K,λk B=>Q k (p b k B),(L b).trans F,I,J,λd j X=>?_⟩;rw[B T k S rfl]at d;obtain⟨u,C,o,H⟩:=x d j X;exact⟨u,C,o,(Dd S j).st H G⟩
 |st j=>trivial
theorem Om{s0:An}{n:Nat}{s':GS}{m W:Nat}{ρ0:Nat->Value}{g:Nat->Value}:∀{L:List Oper} {rs:List HY} {i:Nat} {σ:AS} {a:Act} {ρ:Nat->Value},L.length=rs.length->StI s0 n σ a s' ρ->m<=σ.hp.length->(∀j,j<m->ρ j=ρ0 j)->s0.g.w.heap.size<=W ->
  (∀k o b,σ.hp[k]? = some o->OwB s' (ρ k) o b->b<W\/∃j,j<i/\s'.tag b=j+1)->(∀(j:Nat) r,rs[j]? = some r->SFact m ρ0 W (λ_=>true) (i+j) r (g (i+j)) s')->(∀(j:Nat) o k,L[j]? = some o->rs[j]? = some (.st k)->o.dst=none)->(∀o∈L,∀d,o.dst=some d->d<n)->∃ρ',StI s0 n (σ.aftS L rs) (FH g L i a) s' ρ'
 | [],[],i,σ,a,ρ,_,h,_,_,_,_,_,_,_=>⟨ρ,h⟩
 | [],_::_,_,_,_,_,hl,_,_,_,_,_,_,_,_=>by simp at hl
 | _::_,[],_,_,_,_,hl,_,_,_,_,_,_,_,_=>by simp at hl
 | o::L,r::rs,i,σ,a,ρ,hl,h,hm,hρ,hW,hb,hf,hst,hd=>by
  have hd1:∀d,o.dst=some d->d<n:=hd o (by simp)
  have hd2:∀o∈L,∀d,o.dst=some d->d<n:=λo ho=>hd o (by simp [ho])
  have hst2:∀(j:Nat) o k,L[j]? = some o->rs[j]? = some (.st k)->o.dst=none:=λj o k h1 h2=>hst (j+1) o k (by simpa using h1) (by simpa using h2)
  have hf0:=hf 0 r rfl
  rw [Ybf] at hf0
  have hf':∀(j:Nat) r',rs[j]? = some r'->SFact m ρ0 W (λ_=>true) (i+1+j) r' (g (i+1+j)) s':=λj r' hj=>by
   have:=hf (j+1) r' (by simpa using hj)
   rw [show i+(j+1)=i+1+j by omega] at this
   exact this
  have hbn:∀(b:Nat) (T:TypeId) (c:List AV),s'.tag b=i+1->∀(k:Nat) o' b',(σ.hp++[Ow.var T c])[k]? = some o'->OwB s' (if k=σ.hp.length then .pointer (some ⟨b,0,none⟩) else ρ k) o' b'->b'<W\/∃j,j<i+1/\s'.tag b'=j+1:=by
   intro b T c e5 k o' b' hk hv
   rw [YaQ] at hk
   split at hk
   .rename_i hlt
    rw [Yaj (by omega)] at hv
    rcases hb k o' b' hk hv with h2 | ⟨j,h2,h3⟩
    .exact .inl h2
    .exact .inr ⟨j,by omega,h3⟩
   .rename_i hge
    have:k=σ.hp.length:=by
     have:=Cu hk
     simp at this
     omega
    subst this
    rw [Yao rfl] at hv
    have ho:o' = .var T c:=by simp at hk;exact hk.symm
    subst ho
    cases hv
    exact .inr ⟨i,by omega,e5⟩
  have hsep:∀(b:Nat) (T:TypeId) (c:List AV),W<=b->s'.tag b=i+1->∀b',OwB s' (.pointer (some ⟨b,0,none⟩)) (.var T c) b'->∀k o',σ.hp[k]? = some o'->¬OwB s' (ρ k) o' b':=by
   intro b T c e2 e5 b' hb' k o' hk hv
   cases hb'
   rcases hb k o' b hk hv with h2 | ⟨j,h2,h3⟩
   .omega
   .omega
  cases r with
  | av r=>
   have h1:=h.put (GS.Le.refl s') hd1 (v:=g i) (r:=r) (AVr.mono hf0 hm hρ)
   refine Om (L:=L) (rs:=rs) (i:=i+1) (by simpa using hl) h1 ?_ hρ hW ?_ hf' hst2 hd2
   .cases hdo:o.dst<;>exact hm
   .intro k o' b hk hv
    have hk':σ.hp[k]? = some o':=by cases hdo:o.dst<;>(rw [hdo] at hk;exact hk)
    rcases hb k o' b hk' hv with h2 | ⟨j,h2,h3⟩
    .exact .inl h2
    .exact .inr ⟨j,by omega,h3⟩
  | st j=>
   have hdn:o.dst=none:=hst 0 o j rfl rfl
   have ha:FH g (o::L) i a=FH g L (i+1) a:=by show FH g L (i+1) (a.put o.dst (g i))=_;rw [hdn];rfl
   rw [ha]
   refine Om (L:=L) (rs:=rs) (i:=i+1) (by simpa using hl) h hm hρ hW ?_ hf' hst2 hd2
   intro k o' b hk hv
   rcases hb k o' b hk hv with h2 | ⟨j,h2,h3⟩
   .exact .inl h2
   .exact .inr ⟨j,by omega,h3⟩
  | new T cs=>
   obtain ⟨b,e1,e2,e3,e4,e5,e6,e7⟩:=hf0
   have h1:=h.newG (GS.Le.refl s') hd1 (v:=g i) (u:=.pointer (some ⟨b,0,none⟩)) (r:=.ptr σ.hp.length 0) (ow:=.var T (exs cs)) ⟨by omega,b,by simp,e1⟩ ?_ (hsep b T _ e2 e5) (λb' hb'=>by cases hb';exact .inr (Yau hW e2))
   .exact Om (L:=L) (rs:=rs) (i:=i+1) (by simpa using hl) h1 (by show m<=(σ.hp++[_]).length;simp;omega) (λj hj=>by rw [Yaj (by omega)];exact hρ j hj) hW (hbn b T _ e5) hf' hst2 hd2
   .refine ⟨b, cs.toArray, by simp, Yay _, e3, by simp [exs], e6, e4, λk av hk=>?_⟩
    unfold exs at hk
    rw [Yav] at hk
    cases hz:cs[k]? with
    | none=>rw [hz] at hk;cases hk
    | some u=>
     rw [hz] at hk
     cases hk
     exact ⟨u,by simpa using hz,Yah.1 e7 u (Yaz hz),rfl⟩
  | newS T k0 ds=>
   obtain ⟨b,cs,e1,e2,e3,e4,e5,e6,e7,e8⟩:=hf0
   have h1:=h.newG (GS.Le.refl s') hd1 (v:=g i) (u:=.pointer (some ⟨b,0,none⟩)) (r:=.ptr σ.hp.length 0) (ow:=.var T (ds.map .d)) ⟨by omega,b,by simp,e1⟩ ?_ (hsep b T _ e2 e5) (λb' hb'=>by cases hb';exact .inr (Yau hW e2))
   .exact Om (L:=L) (rs:=rs) (i:=i+1) (by simpa using hl) h1 (by show m<=(σ.hp++[_]).length;simp;omega) (λj hj=>by rw [Yaj (by omega)];exact hρ j hj) hW (hbn b T _ e5) hf' hst2 hd2
   .refine ⟨b, cs, by simp, Yay _, e3, by simp [e7], e6, e4, λk av hk=>?_⟩
    rw [Yav] at hk
    cases hz:ds[k]? with
    | none=>rw [hz] at hk;cases hk
    | some u=>
     rw [hz] at hk
     cases hk
     obtain ⟨x,q1,q2,q3⟩:=e8 rfl k (Yae.1 hz).1
     refine ⟨x,q1,q2,?_⟩
     have:Dd ds k=u:=by simp [Dd,hz]
     rw [this] at q3
     exact q3
def AaU(L:List Oper)(z:List (List (Nat×Nat)))(n:Nat):Bool:=
 (List.range L.length).all λi=>match L[i]?,z[i]? with
  |some o,some e=>BN o.op&&((Bw o).all λk=>decide (k<i))&&(e.all λp=>(Bw o).contains p.2&&(match L[p.2]? with |some x=>x.dst==some p.1 |none=>false)) &&
   (o.op.operands.all λy=>match y with | .tmp t=>(e.any λp=>p.1==t)||(L.all λx=>x.dst != some t) | _=>true) &&
   (match o.dst with | none=>true | some d=>decide (d<n)&&((List.range L.length).all λj=>j==i||(match L[j]? with | some x=>x.dst != some d | none=>true)))
  |_,_=>false
structure ChkS(L:List Oper)(n i:Nat)(o:Oper)(e:List (Nat×Nat)):Prop where
 ns:BN o.op=true
 lt:∀k∈Bw o,k<i
 env:∀p∈e,p.2∈Bw o/\∃o',L[p.2]? = some o'/\o'.dst=some p.1
 out:∀t,Operand.tmp t∈o.op.operands->(∃p∈e,p.1=t)\/∀o'∈L,o'.dst≠some t
 dst:∀d,o.dst=some d->d<n/\∀(j:Nat) o',L[j]? = some o'->o'.dst=some d->j=i
theorem Jx{L:List Oper}{n:Nat}(h:AaU L uH n=true){i:Nat}(s:L[i]? = some va):∃e,uH[i]? = some e/\ChkS L n i va e:=by
 have q:=Yah.1 h i (Ybd.2 (Yae.1 s).1);rw[s]at q
 cases b:uH[i]? with
 |none=>rw[b]at q;cases q
 |some e=>
  rw[b]at q;simp only[Yam]at q;obtain⟨⟨⟨⟨K,J⟩,m⟩,o⟩,v⟩:=q;refine⟨e,rfl,K,λk B=>by simpa using Yah.1 J k B,λp F=>?_,λt C=>?_,λd E=>?_⟩
  .have:=Yah.1 m p F
   simp only[Yam]at this;refine⟨by simpa using this.1,?_⟩;have A:=this.2
   cases G:L[p.2]? with
   |none=>rw[G]at A;cases A
   |some x=>rw[G]at A;exact⟨x,rfl,by simpa using A⟩
  .have:=(Yeu.1 o) _ C
   simp only[YaT]at this;rcases this with A | A
   .obtain ⟨p,F,W⟩:=YbF.1 A
    exact .inl ⟨p,F,by simpa using W⟩
   .exact .inr λx M=>by simpa using Yah.1 A x M
  .rw [E]at v
   simp only[Yam,YaZ]at v;refine⟨v.1,λj x M I=>?_⟩;have:=Yah.1 v.2 j (Ybd.2 (Yae.1 M).1);rw[M]at this;simpa[I]using this
structure SInvY(σ:AS)(L:List Oper)(rs:List HY)(ρ:Nat->Value)(s:GS)(a:Act)(listed:Array Bool)(g:Nat->Value)(a':Act)(s':GS):Prop where
 le:GS.Le s.dr s'
 asz:a'.tmps.size=a.tmps.size
 adef:a'.defers=a.defers
 closed:∀j o,L[j]? = some o->listed.getD j false=true->∀e∈Bw o,listed.getD e false=true
 a1:∀j o d,L[j]? = some o->listed.getD j false=true->o.dst=some d->a'.tmps[d]? = some (g j)
 a2:∀t,(∀j o,L[j]? = some o->listed.getD j false=true->o.dst≠some t)->a'.tmps[t]? = a.tmps[t]?
 facts:∀j r,rs[j]? = some r->listed.getD j false=true->SFact σ.hp.length ρ s.w.heap.size (λk=>listed.getD k false) j r (g j) s'
theorem SInvY.put{σ:AS}{L:List Oper}{rs:List HY}{s:GS}{a:Act}{g:Nat->Value}{F:Act}{s1 s2:GS}{n i:Nat}{e:List (Nat×Nat)}(N:SInvY σ L rs vh s a vO g F s1)(C:a.tmps.size=n)(K:vO.size=L.length)(E:L[i]? = some va)(G:ChkS L n i va e)(b:vO.getD i false=false)(o:∀e∈Bw va,vO.getD e false=true){v:Value}(S:GS.Le s.dr s2)
  (p:∀j r,rs[j]? = some r->j≠i->vO.getD j false=true->SFact σ.hp.length vh s.w.heap.size (λk=>(vO.setIfInBounds i true).getD k false) j r (g j) s2) (J:∀r,rs[i]? = some r->SFact σ.hp.length vh s.w.heap.size (λk=>(vO.setIfInBounds i true).getD k false) i r v s2) :
  SInvY σ L rs vh s a (vO.setIfInBounds i true) (λk=>if k=i then v else g k) (F.put va.dst v) s2:=by
 have c:i<vO.size:=by rw[K];exact(Yae.1 E).1
 have m:∀j,(vO.setIfInBounds i true).getD j false=true->j≠i->vO.getD j false=true:=λj h X=>by
  exact ZhB
 refine⟨S,?_,?_,λj f W I k B=>?_,λj f d W I l=>?_,λt q=>?_,λj r Y I=>?_⟩
 .unfold Act.put;split<;>simp[N.asz]
 .unfold Act.put;split<;>simp[N.adef]
 .by_cases Z:j=i
  .subst Z
   obtain rfl:f=va:=Yag (W.symm.trans E);exact getD_set_true (o k B)
  .exact getD_set_true (N.closed j f W (m j I Z) k B)
 .by_cases Z:j=i
  .subst Z
   obtain rfl:f=va:=Yag (W.symm.trans E);have w:d<F.tmps.size:=by rw[N.asz,C];exact(G.dst d l).1
   simp[Act.put,l,w]
  .have u:=m j I Z
   have M:va.dst≠some d:=λV=>Z ((G.dst d V).2 j f W l);rw[Yaj Z,<-N.a1 j f d W u l];unfold Act.put;split
   .rename_i Q O
    have:Q≠d:=λe=>M (by rw[O,e]);exact ZjD
   .rfl
 .have A:va.dst≠some t:=q i va E (by simp [c])
  rw[<-N.a2 t λj f W I=>q j f W (getD_set_true I)];unfold Act.put;split
  .rename_i Q O
   have:Q≠t:=λe=>A (by rw[O,e]);exact ZjD
  .rfl
 .by_cases Z:j=i
  .subst Z
   simp only[if_true];exact J r Y
  .simp only[Yaj Z]
   exact p j r Y Z (m j I Z)
theorem A4J{P:Program}{s0:An}{n:Nat}{Q:Exit->AS->Prop}{σ:AS}{id:Nat}{L:List Oper}(hm:P.follows .mixedOrders=true)(es:List (List (Nat×Nat)))(rs:List HY)(hok:AaU L es n=true)(steps:HYSteps P σ rs 0 L es rs)(fin:Q .normal (σ.aftS L rs)):AWp P s0 n (.region id L.toArray true) Q σ:=by
 refine ⟨λa w ⟨s,ρ,hw,hst⟩=>?_⟩
 subst hw
 obtain ⟨hl1,hl2,hat⟩:=steps.at
 have hn:a.tmps.size=n:=hst.sz
 have hfz:∀j,(Array.replicate L.toArray.size false).getD j false=false:=λj=>by
  rcases YaI j L.length with h | h
  .simp [h]
  .simp [h]
 have hat':∀{i:Nat} {o:Oper} {e:List (Nat×Nat)},L[i]? = some o->es[i]? = some e->∃r,rs[i]? = some r/\HYStep P σ rs e i o r:=λ{i o e} ho he=>by
  have hi:=(Yae.1 ho).1
  have hr:rs[i]? = some (rs[i]'(by omega)):=Yab _
  refine ⟨_,hr,?_⟩
  have:=hat i o e _ ho he hr
  rwa [YaH] at this
 refine wp_region_any hm (OU (λlisted a' w'=>∃g s',s'.w=w'/\SInvY σ L rs ρ s a listed g a' s') ?_ ?_ _ _ a s.w.drew (by simp) ?_ ⟨λ_=>undef,s.dr,rfl,GS.Le.refl _,rfl,rfl,(λj o _ h=>by rw [hfz] at h;cases h),(λj o d _ h=>by rw [hfz] at h;cases h),λt _=>rfl,λj r _ h=>by rw [hfz] at h;cases h⟩)
 .rintro listed a' _ i hsz ⟨g,s1,rfl,inv⟩ hi
  have hsz:listed.size=L.length:=by simpa using hsz
  obtain ⟨_,o,ho,_⟩:=mem_ready.1 hi
  have ho:L[i]? = some o:=by simpa using ho
  obtain ⟨hun,hed⟩:=(DH hsz ho).1 hi
  obtain ⟨e,he,hc⟩:=Jx hok ho
  obtain ⟨r,hr,hs⟩:=hat' ho he
  have hil:i<listed.size:=by rw [hsz];exact (Yae.1 ho).1
  have hle:GS.Le s s1:=(Kq s).trans inv.le
  have hhp:=hst.hp.le hle
  have hok1:=hle.ok hst.ok
  have hdone:∀k,k≠i->(listed.setIfInBounds i true).getD k false=listed.getD k false:=λk hk=>getD_set_ne false λe=>hk e.symm
  have hnewS:∀(j:Nat) T k ds,rs[j]? = some (.newS T k ds)->j<L.length->rs[k]? = some (.st j):=λj T k ds hj hlt=>by
   have hoj:L[j]? = some L[j]:=Yab hlt
   obtain ⟨ej,hej,_⟩:=Jx hok hoj
   obtain ⟨r',hr',hs'⟩:=hat' hoj hej
   obtain rfl:r'=_:=Yag (hr'.symm.trans hj)
   exact hs'.2
  have hrlt:∀(j:Nat) r,rs[j]? = some r->j<L.length:=λj r hj=>by have:=(Yae.1 hj).1;omega
  have hargs:∀y,y∈o.op.operands->AVr σ.hp.length ρ s1 (DN σ (rs.map HY.hr) e y) (a'.eval y):=by
   intro y hy
   cases y with
   | tmp t=>
    show AVr _ ρ s1 (match e.find? (λp=>p.1==t) with
     | some p=>match (rs.map HY.hr)[p.2]? with
      | some h=>h.val
      | none=>.d Cs
     | none=>(Ce σ.fr t).getD (.d Cs)) (a'.tmps.getD t undef)
    cases hfd:e.find? (λp=>p.1==t) with
    | some p=>
     have hp:p∈e:=Ybp hfd
     have hpt:p.1=t:=by simpa using YcJ hfd
     simp only
     rw [Yav]
     cases hrp:rs[p.2]? with
     | none=>trivial
     | some h=>
      obtain ⟨hpe,o',ho',hd'⟩:=hc.env p hp
      have h1:=inv.facts p.2 h hrp (hed _ hpe)
      have h2:=inv.a1 p.2 o' p.1 ho' (hed _ hpe) hd'
      have h3:a'.tmps.getD t undef=g p.2:=by rw [<-hpt,YaA,h2];rfl
      rw [h3]
      cases h with
      | av r=>exact h1
      | _=>trivial
    | none=>
     simp only
     have h1:a'.tmps[t]? = a.tmps[t]?:=by
      refine inv.a2 t λj oj hoj _ hdj=>?_
      rcases hc.out t hy with ⟨p,hp,e1⟩ | h
      .have:=Ycl.1 hfd p hp
       simp [e1] at this
      .exact h oj (Yaz hoj) hdj
     rw [YaA,h1,<-YaA]
     exact (hst.arg (.tmp t)).chg hle.chg
   | const v=>exact (show a'.eval (.const v)=v from rfl)
   | global b=>trivial
   | func f=>exact (show a'.eval (.func f)=_ from rfl)
  have ho2:L.toArray[i]? = some o:=by simpa using ho
  have quiet:o.guard=none->(∀j,r ≠ .st j)->RegG.OpStep P o a'.eval s1 (λv s2=>GS.Le s1 s2/\SFact σ.hp.length ρ s.w.heap.size (λk=>(listed.setIfInBounds i true).getD k false) i r v s2)->wpOp P L.toArray (GR s0 n Q) i (λa' w'=>∃g s',s'.w=w'/\SInvY σ L rs ρ s a (listed.setIfInBounds i true) g a' s') a' s1.w:=by
   intro hg hns h
   unfold wpOp
   rw [ho2]
   show if Region.wanted o (yielded L.toArray a'.tmps)=true then _ else _
   rw [Yao (by simp [Region.wanted,hg])]
   refine .inl (RegG.opStep_wp hc.ns (λ_ _=>rfl) h λv s2 ⟨h1,h2⟩=>⟨_,s2,rfl,inv.put hn hsz ho hc hun hed (inv.le.trans h1) (λj r' hr' hji hl=>?_) λr' hr'=>?_⟩)
   .refine (inv.facts j r' hr' hl).st h1 λT k ds e1=>?_
    subst e1
    refine hdone k λe2=>?_
    subst e2
    exact hns j (Yag (hr.symm.trans (hnewS j T k ds hr' (hrlt _ _ hr'))))
   .obtain rfl:r'=r:=Yag (hr'.symm.trans hr)
    exact h2
  have hnewrun:∀T cs,HStep P σ [] e o (.new T cs)->o.guard=none/\T≠335/\Ih cs=true/\∃z:Value,z.cells.toList=cs/\(execOp a'.eval o).run P s1.w = .ok (.value (.pointer (some ⟨s1.w.heap.size,0,none⟩))) (s1.w.alloc (.cells z.cells T)):=λT cs h=>by
   obtain ⟨hg,hop,hT,h1,d,k,b,z,ht,hz⟩:=h
   exact ⟨hg,hT,h1,z,hz,by simp [execOp,hop,Instr.alloc,ht.run_zero,IM]⟩
  cases r with
  | av r=>
   exact quiet hs.1 (λj h=>by cases h) (hs.2.run 0 s1 ρ a'.eval hok1 (Yay _) hhp hargs)
  | new T cs=>
   obtain ⟨hg,hT,h1,z,hz,hrun⟩:=hnewrun T cs hs
   subst hz
   refine quiet hg (λj h=>by cases h) (Jp hrun (s1.mk' z.cells T (i+1)) rfl ⟨s1.le_mk' z.cells T (i+1) hT,s1.w.heap.size,rfl,hle.ext.size,heap_alloc_new s1.w _,λk hk=>absurd (hok1.lt _ _ hk) (Ycm _),?_,hT,h1⟩)
   show (if s1.w.heap.size=s1.w.heap.size then i+1 else _)=i+1
   rw [Yao rfl]
  | newS T k ds=>
   obtain ⟨⟨cs,hs,hcl⟩,hk⟩:=hs
   obtain ⟨hg,hT,h1,z,hz,hrun⟩:=hnewrun T cs hs
   subst hz
   refine quiet hg (λj h=>by cases h) (Jp hrun (s1.mk' z.cells T (i+1)) rfl ⟨s1.le_mk' z.cells T (i+1) hT,s1.w.heap.size,z.cells,rfl,hle.ext.size,heap_alloc_new s1.w _,λk hk=>absurd (hok1.lt _ _ hk) (Ycm _),?_,hT,by simpa using hcl,λhd=>?_⟩)
   .show (if s1.w.heap.size=s1.w.heap.size then i+1 else _)=i+1
    rw [Yao rfl]
   .exfalso
    have hki:k≠i:=λe1=>by
     subst e1
     rw [hr] at hk
     cases hk
    have hd:=(hdone k hki).symm.trans hd
    have hok':L[k]? = some (L[k]'(hrlt _ _ hk)):=Yab _
    obtain ⟨ek,hek,hck⟩:=Jx hok hok'
    obtain ⟨r',hr',hs'⟩:=hat' hok' hek
    obtain rfl:r'=_:=Yag (hr'.symm.trans hk)
    obtain ⟨_,_,T',x,y,T0,ds',d,b,z',_,hx,_⟩:=hs'
    have:=inv.closed k _ hok' hd i (hck.env _ hx).1
    rw [hun] at this
    cases this
  | st j=>
   obtain ⟨hg,hdn,T,x,y,T0,ds,d,b,z,hop,hx,hrj,hy,ht⟩:=hs
   obtain ⟨hje,oj,hoj,hdj⟩:=hc.env _ hx
   have hlj:=hed _ hje
   obtain ⟨gb,cs,e1,e2,e3,e4,e5,e6,e7,_⟩:=inv.facts j _ hrj hlj
   have hxv:a'.eval (.tmp x) = .pointer (some ⟨gb,0,none⟩):=by
    rw [<-e1]
    show a'.tmps.getD x undef=g j
    rw [YaA,inv.a1 j oj x hoj hlj hdj];rfl
   have hya:=hargs y (by rw [hop];simp [Op.operands])
   rw [hy] at hya
   obtain ⟨vs,p1,p2,p3⟩:=hya
   have hvone:∀v∈vs.toList,v.oneCell'=true:=λv hv=>by
    obtain ⟨k,hk,rfl⟩:=YcM hv
    simp at hk
    obtain ⟨u,h9,h10,_⟩:=p3 k (by omega)
    rw [YaF hk] at h9
    cases h9
    simpa using h10
   have hst1:=run_storeCells_at P gb 0 T0 vs.toList 0 cs s1.w e3 (by simp;omega) hvone
   simp only [Ybf] at hst1
   have hcont:(cs.toList.take 0++vs.toList++cs.toList.drop (0+vs.toList.length)).toArray=vs:=by
    rw [List.drop_of_length_le (by simp;omega)]
    simp
   rw [hcont] at hst1
   obtain ⟨W,hW⟩:∃W,W=s1.w.setRow gb vs:=⟨_,rfl⟩
   rw [<-hW] at hst1
   have hrun:(execOp a'.eval o).run P s1.w = .ok .skip W:=by
    simp [execOp,hop,hxv,p1,Instr.storeAt,Instr.sureAddr,storeVar,Value.cells,p2,ht.run_size,hst1]
   have hfar:∀b,b≠gb->W.heap[b]? = s1.w.heap[b]?:=λb hb=>by rw [hW];exact setRow_other s1.w gb b _ (λe=>hb e)
   have hnew:W.heap[gb]? = some (.cells vs T0 (0,0)):=by rw [hW];exact setRow_heap s1.w gb cs _ T0 _ e3
   have hwsz:W.heap.size=s1.w.heap.size:=by rw [hW];simp [World.setRow]
   have hok2 : s1.Ok → GS.Ok { s1 with w := W } := fun h => KW h (fun _ _ h => h) (by show _ ≤ W.heap.size; omega) (fun _ _ h => h) fun b ⟨c, fz, hb⟩ => by
    by_cases e:b=gb
    .subst e
     have hb:W.heap[b]? = _:=hb
     rw [hnew] at hb
     cases hb
     exact absurd rfl e6
    .exact ⟨c,fz,(hfar b e).symm.trans hb⟩
   have hch : GS.Chg s1 { s1 with w := W } := ⟨by show _ ≤ W.heap.size; omega, fun _ _ h => h, fun b c T fz hb => by
    by_cases e:b=gb
    .subst e
     rw [e3] at hb
     cases hb
     exact ⟨_,_,hnew,λk hk=>absurd hk (e4 k)⟩
    .exact ⟨c,fz,(hfar b e).trans hb,λ_ _=>rfl⟩⟩
   have hdrs:s.dr.w.heap.size=s.w.heap.size:=rfl
   have hle2:GS.Le s.dr { s1 with w:=W }:=by
    refine ⟨⟨?_,?_,?_,?_,λk hk=>?_⟩,inv.le.up,inv.le.old,inv.le.tag,λh=>hok2 (inv.le.ok h)⟩
    .rw [<-inv.le.ext.os];rw [hW];rfl
    .rw [<-inv.le.ext.tape];rw [hW];rfl
    .rw [<-inv.le.ext.output];rw [hW];rfl
    .show _<=W.heap.size
     rw [hwsz]
     exact inv.le.ext.size
    .show W.heap[k]? = _
     rw [hfar k (by omega)]
     exact inv.le.ext.block hk
   have hfin:SInvY σ L rs ρ s a (listed.setIfInBounds i true) (λk=>if k=i then undef else g k) (a'.put o.dst undef) { s1 with w:=W }:=by
    refine inv.put hn hsz ho hc hun hed hle2 (λj' r' hr' hji hl=>?_) λr' hr'=>?_
    .by_cases hjj:j'=j
     .subst hjj
      obtain rfl:r'=_:=Yag (hr'.symm.trans hrj)
      exact ⟨gb,vs,e1,e2,hnew,e4,e5,e6,p2,λ_ k hk=>by
       obtain ⟨u,q1,q2,q3⟩:=p3 k hk
       exact ⟨u,q1,q2,(Dd ds k).st q3 hch⟩⟩
     .refine (inv.facts j' r' hr' hl).turn (g:=gb) (tg:=j) hch hfar (λ_ _ h=>h) (λ_=>rfl) e5 hjj λT' k' ds' e9=>?_
      subst e9
      refine hdone k' λe10=>?_
      subst e10
      have:=hnewS j' T' k' ds' hr' (hrlt _ _ hr')
      rw [hr] at this
      cases this
      exact hjj rfl
    .obtain rfl:r'=_:=Yag (hr'.symm.trans hr)
     trivial
   unfold wpOp
   rw [ho2]
   show if Region.wanted o (yielded L.toArray a'.tmps)=true then _ else _
   rw [Yao (by simp [Region.wanted,hg])]
   refine .inl ?_
   unfold Oper.wp
   rw [hrun]
   exact ⟨_,_,rfl,hfin⟩
 .rintro listed a' _ hsz ⟨g,s1,rfl,inv⟩ h0
  have hsz:listed.size=L.length:=by simpa using hsz
  have hall:∀i,i<L.length->listed.getD i false=true:=by
   intro i
   induction i using Nat.strongRecOn with
   | _ i ih=>
    intro hi
    have ho:L[i]? = some L[i]:=Yab hi
    obtain ⟨e,he,hc⟩:=Jx hok ho
    cases hg:listed.getD i false with
    | true=>rfl
    | false=>
     have:i∈Region.ready .any L.toArray listed:=(DH hsz ho).2 ⟨hg,λk hk=>ih k (hc.lt k hk) (by have:=hc.lt k hk;omega)⟩
     rw [h0] at this
     cases this
  have hle:GS.Le s s1:=(Kq s).trans inv.le
  have hst':StI s0 n σ a s1 ρ:=hst.put hle (dst:=none) (λd hd=>by cases hd) (v:=undef) (r:=.d Cs) trivial
  have hdl:∀o∈L,∀d,o.dst=some d->d<n:=λo ho d hd=>by
   obtain ⟨i,hi⟩:=YbO ho
   obtain ⟨e,he,hc⟩:=Jx hok hi
   exact (hc.dst d hd).1
  obtain ⟨ρ',hfin⟩:=Om (g:=g) (L:=L) (rs:=rs) (i:=0) (W:=s.w.heap.size) (m:=σ.hp.length) (ρ0:=ρ) hl2 hst' (Yai _) (λ_ _=>rfl) hst.le.size (λk o b hk hv=>.inl ((hst.hp k o hk).blk_lt0 (OwB.le (hst.hp k o hk) hle hv))) (λj r hj=>by
   rw [YaH]
   refine (inv.facts j r hj (hall j (by have:=(Yae.1 hj).1;omega))).st (GS.Le.refl _) λT k ds e1=>?_
   subst e1
   have hjl:j<L.length:=by have:=(Yae.1 hj).1;omega
   have hoj:L[j]? = some L[j]:=Yab hjl
   obtain ⟨ej,hej,_⟩:=Jx hok hoj
   obtain ⟨r',hr',hs'⟩:=hat' hoj hej
   obtain rfl:r'=_:=Yag (hr'.symm.trans hj)
   have:=hs'.2
   exact (hall k (by have:=(Yae.1 this).1;omega)).symm) (λj o k hj hr=>by
   obtain ⟨ej,hej,_⟩:=Jx hok hj
   obtain ⟨r',hr',hs'⟩:=hat' hj hej
   obtain rfl:r'=_:=Yag (hr'.symm.trans hr)
   exact hs'.2.1) hdl
  have hpa:FH g L 0 a=a':=by
   obtain ⟨q1,q2,q3,q4⟩:=Hy (g:=g) L 0 a (λj k o o' d hj hk e1 e2=>by
    obtain ⟨e,he,hc⟩:=Jx hok hj
    exact ((hc.dst d e1).2 k o' hk e2).symm) (λo ho d hdo=>by rw [hn];exact hdl o ho d hdo)
   refine On (YdE λt=>?_) (q2.trans inv.adef.symm)
   by_cases ht:∃(j:Nat) (o:Oper),L[j]? = some o/\o.dst=some t
   .obtain ⟨j,o,hj,hdo⟩:=ht
    rw [q3 j o t hj hdo,inv.a1 j o t hj (hall j (Yae.1 hj).1) hdo]
    simp
   .rw [q4 t λj o hj e=>ht ⟨j,o,hj,e⟩,inv.a2 t λj o hj _ e=>ht ⟨j,o,hj,e⟩]
  rw [hpa] at hfin
  exact ⟨_,fin,s1,ρ',rfl,hfin⟩
 .rw [<-YdG]
  simp
section
variable {P:Program} {σ:AS} {rs:List HY} {es:List (Nat×Nat)} {i:Nat} {o:Oper}
theorem HYSteps.cons{x:List (Nat×Nat)}{r:HY}{L:List Oper}{S:List (List (Nat×Nat))}{T:List HY}(h:HYStep P σ rs x i o r)(a:HYSteps P σ rs (i+1) L S T):HYSteps P σ rs i (o::L) (x::S) (r::T):=⟨h,a⟩
theorem HYSteps.nil:HYSteps P σ rs i [] [] []:=trivial
theorem HYStep.q{r:AV}(R:o.guard=none)(m:Quiet P σ.hp o (DN σ (rs.map HY.hr) es) r):HYStep P σ rs es i o (.av r):=⟨R,m⟩
theorem HYStep.n{T n b k:Nat}{ds:List D}(R:o.guard=none)(L:Tab P T d n b z)(F:o.op=.alloc T)(e:Nat.beq T 335=false)(q:Ih z.cells.toList=true)(I:z.cells.toList.length=ds.length)(B:rs[k]? = some (.st i)):HYStep P σ rs es i o (.newS T k ds):=⟨⟨_,HStep.n R L F (YaJ e) q,I⟩,B⟩
theorem HYStep.s{T x j q:Nat}{y:Operand}{ds:List D}{b:Nat}(R:o.guard=none)(A:o.dst=none)(F:o.op=.store T (.tmp x) y)(C:(x,j)∈es)(X:rs[j]? = some (.newS q i ds))(M:DN σ (rs.map HY.hr) es y=.d (AP ds))(L:Tab P T d ds.length b z):HYStep P σ rs es i o (.st j):=⟨R,A,T,x,y,q,ds,d,b,z,F,C,X,M,L⟩
end
theorem Gg{s0:An}{n:Nat}{Q:Exit->AS->Prop}{C τ:AS}{id:Nat}(v:P.follows .mixedOrders=true)(d:List HY)(E:AaU vf (Ho vf) n=true)(steps:HYSteps P C d 0 vf (Ho vf) d)(I:AS.le (C.aftS vf d) τ)(fin:Q .normal τ):AWp P s0 n (.region id vf.toArray true) Q C:=⟨λa w B=>by
 refine wp_mono ((A4J (Q:=λe u=>e=.normal/\u=C.aftS vf d) v (Ho vf) d E steps ⟨rfl,rfl⟩).run a w B) λe Y N ⟨u,⟨b,q⟩,A⟩=>?_;subst b;subst q;exact⟨τ,fin,I _ _ _ _ A⟩⟩
section
variable {P:Program} {s0:An} {n:Nat} {ops:Array Oper} {Q:Exit->AS->Prop} {rest:List Oper} {fr:List (Nat×AV)} {hp hp':List Ow} {ty:TypeId} {ps:String} {af:Array Edge}
def Hset(s:GS)(e:HE):Prop:=∃f:Array Value,s.w.heap[e.b]? = some (.cells f e.T (0,0))/\∀k,k<e.ds.length->s.S e.b k/\∃u,f[k]? = some u/\u.oneCell'=true/\(Dd e.ds k).rel s u
theorem A28{x R:D}(id t:Nat)(X:hp[id]? = some (.obj (Lb uD)))(E:Ce fr t=some h)(l:HO hp h=some x)(I:Gk hp id .dead=some hp')(N:∀s:GS,(∀e∈uD,Hset s e)->∀v,x.rel s v->R.rel s v):AS.le ⟨fr,hp⟩ ⟨(t,.d R)::fr,hp'⟩:=by
 rw[Ev I];intro s0 n a w ⟨s,V,c,L⟩;obtain⟨A,-⟩:=Mw (L.hp id _ X);let Z:GS:=⟨λb k=>s.S b k\/∃e,e∈uD/\e.b=b,s.tag,s.w⟩;have i:GS.Chg s Z:=⟨Yai _,λ_ _ C=>.inl C,λb f T Y F=>⟨f,Y,F,λ_ _=>rfl⟩⟩;have r:Z.Ok:=⟨λb k C=>C.elim (L.ok.lt b k) λ⟨e,J,F⟩=>F▸(A e J).lt,λb k z=>.inl (L.ok.safe b k z)⟩;have y:GS.LeX s0.mine s0.g Z:=⟨L.le.os,L.le.tape,L.le.output,L.le.block,L.le.chg.trans i,λb k F M C=>C.elim (L.le.old b k F M) λC=>((L.own id _ b X C).elim M λq=>absurd F ZbC).elim,L.le.tag,λ_=>r⟩
 have j:=L.upd (s':=Z) (o':=.dead) (ρ':=V) (f:=λx=>x) y r i X
  (λb _ m=>⟨rfl,λk=>⟨λC=>C.elim (λq=>q) λq=>absurd q m,λC=>.inl C⟩⟩) (λ_ _=>rfl) trivial (λb F=>F.elim) λO v q=>q.chg i
 rw[Lz,IF]at j;have j:StI s0 n ⟨fr,hp.set id .dead⟩ a Z V:=j;refine⟨Z,V,c,⟨j.le,j.ok,λu O S=>?_,j.sz,j.df,j.hp,j.sep,j.own⟩⟩;rw[CX]at S;split at S
 .rename_i e
  cases S;subst e;refine N Z (λe J=>?_) _ (x.st (DV L.hp (L.fr t _ E) l) i);obtain⟨W,p,f,B,K,G⟩:=A e J
  exact⟨f,B,λk C=>⟨.inr ⟨e,J,rfl⟩,by
   obtain⟨u,d,g,o⟩:=G k C;exact⟨u,d,g,(Dd e.ds k).st o i⟩⟩⟩
 .exact j.fr u O S
end
theorem Hset.sl{s:GS}{e:HE}(h:Hset s e){T sz len cap:Nat}(F:e.T=T)(I:vk.length=len)(Y:len<=cap)(L:cap<=9223372036854775807)(o:∀k,k<vk.length->(vk.getD k []).length=sz)(Z:∀k j,k<vk.length->j<sz->k*sz+j<e.ds.length/\Dd e.ds (k*sz+j)=Dd (vk.getD k []) j):(slD T sz vk).rel s (.slice (some ⟨e.b,0,none⟩) len cap):=by
 subst F;subst I;obtain⟨f,q,A⟩:=h;refine⟨_,cap,rfl,Y,L,λ_=>⟨e.b,0,rfl,λk B=>⟨o k B,f,_,q,λj X=>?_⟩⟩⟩;rw[o k B]at X;obtain⟨G,J⟩:=Z k j B X;obtain⟨K,u,Q,C,E⟩:=A _ G;rw[YaH];exact⟨K,u,Q,C,by rw[<-J];exact E⟩
end
