/- Part 19. No condition. -/
import Derived.Test.YtcikkglcoeedlaaGreatBk17
import Derived.Test.YtcikkglcoeedlaaGreatBk18
set_option linter.unusedSimpArgs false
set_option linter.unusedVariables false
set_option maxRecDepth 100000
namespace Go.Proofs.YtcikkglcoeedlaaGreat
open _root_.Go.Proofs.Tryz
open Go.RowKit
variable{ve:AS}{g:AV}{vy:AV->List Ow->Prop}{vl:Act}{p:Bool}{vp ua:Code}{r vw uq:D}{vk:Exit->AS->Prop}{vP:Func}{vd:FuncId}{s vr:GS}{a j:Int}{o:IntKind}{vm:List (List D)}{vc uy:List (Nat×AV)}{i ut:List AV}{v:List D}{l f:List Nat}{H vz uR:List Ow}{vb uh:List Tm}{ue:List Value}{n b T m:Nat}{vh vD:Nat->Int}{vE:Nat->Nat}{vi ud:Nat->Value}{ui:Op}{x y vS:Operand}{vC:Operand->AV}{vs uE:Ow}{P:Program}{vA uT:Rat}{e:Type}{t U:TypeId}{z u:Value}{uj:e->Prop}
theorem YW(c:Rat)(m:Nat->Int)(P:List Tm)(I:c=0):Abs prog 95 [AP (DA c),AP (CM m),BS P] (FY [BS [],ex (.int .i64 0)]):=by
 have Y:=DH.2 I;refine Ab func95 λv=>?_;rw[ntmps95];have w:=Gr c;refine Go ?_;exact AA (Rets.of2 (ResV.tmp rfl rfl) (ResV.tmp rfl rfl) (Cn (A3P) (D.le.refl _)))
theorem MS(c:Rat)(m:Nat->Int)(P:List Tm)(N M:Nat)(I:c≠0)(l:RSz c N)(x:In8 m 0 65535)(B:PSz P M)(E:PIn P 0 65535)(n:∀t∈P,In8 (CT m t.m) 0 65535)(f:P.length<=100000)(U:N+M<=4398046511103):Abs prog 95 [AP (DA c),AP (CM m),BS P] (FY [BS (TC c m P),ex (.int .i64 0)]):=by
 have Y:c.num.sign≠0:=λe=>I (DH.1 e);refine Ab func95 λv=>?_;rw[ntmps95];have o:=Gr c;refine Go ?_;refine AC (λu d=>∃k,k<=P.length/\u=P.length-k/\d=⟨[(2,.d (BS P)),(3,.ptr 0 0),(4,.ptr 1 0),(8,.own 2),(9,.d (ex (.int .i64 (k:Nat))))],[.var 111 ((DA c).map .d),.var 112 ((CM m).map .d),.row 114 12 ((TC c m (P.take k)).map Qk)]⟩) ?le ⟨0,by omega,rfl,rfl⟩ ?round
 case le=>exact Ac Zeq (by exact Yv<|Yv<|Yr<|HpLe.nil)
 case round=>
  rintro u _ ⟨k,C,rfl,rfl⟩;by_cases Q:k<P.length
  .have A:=Dw Q
   have j:=QX Q;refine Go ?_;refine QM (WM (e:=9) ZbI (K4 (K4 (AddE.keep (AddE.keep (AddE.keep (AddE.add (AddE.keep AddE.nil))))))) ZbI) [[],[],[],[(24,1),(25,2)],[(26,3)],[(27,4)],[(23,0),(28,5)],[(29,6)],[(22,7)],[(22,7)],[]] [[],[],[],[1,2],[1,2,3],[1,2,3,4],[0,1,2,3,4,5],[0,1,2,3,4,5,6],[0,1,2,3,4,5,6,7],[0,1,2,3,4,5,6,7],[]] rfl ZbI ZbI ZbI ?_;have i:=A3s m (BA P k).m x (E _ A) (n _ A);refine ZfT ?_;refine Dy 11 ?_;have R:=A2V c (BA P k).c N M l (B _ A) U;refine DO ?_
   (refine Ap ?_);refine ZfN ?_;exact Ac Zeq Zdk
  .exact ZaK
def Xi(c:Rat)(P:List Tm):List Tm:=if c=0 then[]else TC c (λ_=>0) P
theorem A0G(c:Rat)(P:List Tm)(N M:Nat)(l:RSz c N)(B:PSz P M)(E:PIn P 0 65535)(f:P.length<=100000)(U:N+M<=4398046511103):Abs prog 224 [AP (DA c),BS P] (BS (Xi c P)):=by
 by_cases I:c=0
 .refine Ab func224 λv=>?_
  rw[ntmps224];have C:=YW c (λ_=>0) P I;refine Go ?_;exact AA (Am (ResV.tmp rfl rfl) (SQ (by rw[Xi,Yan I])))
 .refine Ab func224 λv=>?_
  rw[ntmps224];have w:=MS c (λ_=>0) P N M I l In8.zero B E (λt A=>by rw[Hg];exact E t A) f U;refine Go ?_;exact AA (Am (ResV.tmp rfl rfl) (SQ (by rw[Xi,Yai I])))
theorem UO{m:Nat->Int}(I:RSz vA n)(A:PSz vb b):PSz (TC vA m vb) (n+b):=λt M=>by
 obtain⟨s,Y,rfl⟩:=YaA.1 M;exact I.mul (A s Y)
theorem Jr{x:Int}(c:-1000<=x)(A:x<=1000):RSz ((x:Int):Rat) 1:=by
 refine⟨?_,?_⟩
 .show (As (x:Int).natAbs).length<=1
  exact JO Zeo
 .show (As 1).length<=1
  exact JO Zeo
theorem Canon.nil:Canon []:=⟨List.Pairwise.nil,λt h=>by cases h⟩
theorem Oh{t:Tm}(h:t.c≠0):Canon [t]:=⟨List.pairwise_singleton _ _,λu S=>by rw[YaC.1 S];exact h⟩
theorem Nu{N M:Nat}:∀{P Q:List Tm},PSz P N->PSz Q M->PSz (Jb P Q) (N+M+1)
 |[],Q,_,h=>by simp only[Jb];exact h.mono ZbD
 |s::P,[],h,_=>by simp only[Jb];exact h.mono ZbD
 |s::P,t::Q,C,E=>by
  have F:PSz P N:=λu S=>C u (by simp[S]);have y:PSz Q M:=λu S=>E u (by simp[S])
  have g:∀{x:Tm} {L:List Tm},RSz x.c (N+M+1)->PSz L (N+M+1)->PSz (x::L) (N+M+1):=λA B u S=>by
   rcases YaK.1 S with rfl | S
   .exact A
   .exact B u S
  rw[Jb];split
  .exact g ((C s ZbS).mono ZbD) (Nu F E)
  .split
   .exact g ((E t ZbS).mono ZbD) (Nu C y)
   .split
    .exact Nu F y
    .exact g ((C s ZbS).add (E t ZbS)) (Nu F y)
termination_by P Q=>P.length+Q.length
theorem A7n(M:PIn vb a j)(h:PIn uh a j):PIn (Jb vb uh) a j:=λu S=>by
 rcases Ig vb uh u S with⟨s,Y,e⟩ | ⟨s,Y,e⟩
 .rw [<-e];exact M s Y
 .rw [<-e];exact h s Y
structure PB(P:List Tm)(n N:Nat)(d:Int):Prop where
 can:Canon P
 len:P.length<=n
 sz:PSz P N
 ex:PIn P 0 d
theorem PB.mono{d e:Int}(h:PB vb n b d)(A:n<=T)(B:b<=m)(L:d<=e):PB vb T m e:=⟨h.can,Yat h.len A,h.sz.mono B,h.ex.mono (YbL _) L⟩
theorem PB.nil{n N:Nat}{d:Int}:PB [] n N d:=⟨Canon.nil,Yaw _,λt h=>ZdC,λt h=>ZdC⟩
theorem PB.add{P Q:List Tm}{n N g V:Nat}(h:PB P n N a)(k:PB Q g V j):PB (Jb P Q) (n+g) (N+V+1) (max a j):=
 ⟨JM h.can k.can,by have:=Km P Q;have:=h.len;have:=k.len;omega,Nu h.sz k.sz,A7n (h.ex.mono (YbL _) ZbD) (k.ex.mono (YbL _) ZbD)⟩
theorem A7G{f:Tm->Tm}(h:Dec vb)(A:∀s∈vb,∀t∈vb,0<lx s.m t.m->0<lx (f s).m (f t).m):Dec (vb.map f):=by
 refine List.pairwise_map.2 (List.Pairwise.imp_of_mem (λ{a b} p F B=>A a p b F B) h)
theorem A02(p:vA≠0)(F:uT≠0):vA*uT≠0:=λe=>by
 rcases Rat.mul_eq_zero.1 e with h | h
 .exact p h
 .exact F h
theorem A2v(I:vA≠0)(h:Canon vb):Canon (TC vA vh vb):=⟨A7G h.1 λs _ t _ h=>by
 show 0<lx (CT vh s.m) (CT vh t.m);rwa [Uw vh,Uw vh,A9z],λt M=>by
 obtain⟨s,Y,rfl⟩:=YaA.1 M;exact A02 I (h.2 s Y)⟩
theorem A82(p:In8 vh 0 a)(F:In8 vD 0 j):In8 (CT vh vD) 0 (a+j):=λi K=>by
 have:=p i K;have:=F i K;simp only[CT];omega
theorem A4q{t:Tm}{d d0:Int}(h:PB vb n b d)(I:t.c≠0)(Y:RSz t.c T)(x:In8 t.m 0 d0):PB (TC t.c t.m vb) n (T+b) (d0+d):=
 ⟨A2v I h.can, by rw [ZM]; exact h.len, UO Y h.sz, fun u S => by
  obtain⟨s,Y,rfl⟩:=YaA.1 S;exact A82 x (h.ex s Y)⟩
theorem A3K{t:Tm}(h:t.c≠0)(Y:RSz t.c n)(x:In8 t.m 0 a):PB [t] 1 n a:=⟨Oh h,by simp,λu S=>by rw[YaC.1 S];exact Y,λu S=>by rw[YaC.1 S];exact x⟩
theorem Abs.le{f:FuncId}{r r':D}(h:Abs P f v r)(X:D.le r r'):Abs P f v r':=
 ⟨h.1,λs K A B L=>(h.2 s K A B L).mono λe N ⟨C,b,j,d,J,E⟩=>⟨C,b,j,d,J,X _ _ E⟩⟩
def FD(lost:List Nat):Nat->List Value->List (Value×AV)
 |_,[]=>[]
 |i,v::K=>bif lost.contains i then FD lost (i+1) K else(v,.own i)::FD lost (i+1) K
theorem OG(lost:List Nat)(i:Nat)(v:Value)(vs:List Value):FD lost i (v::vs)=if i∈lost then FD lost (i+1) vs else(v,.own i)::FD lost (i+1) vs:=by
 show(bif lost.contains i then FD lost (i+1) vs else(v,.own i)::FD lost (i+1) vs)=_;by_cases h:i∈lost
 .rw [Yan h,YbG.2 h];rfl
 .have : lost.contains i = false := by cases F : lost.contains i with
   |true=>exact absurd (YbG.1 F) h
   |false=>rfl
  rw[Yai h,this];rfl
theorem KP{O:List Nat}:∀{K:List Value} {i:Nat} {p:Value×AV},p∈FD O i K->∃k,k<K.length/\p=(K.getD k undef,.own (i+k))
 |[],i,p,h=>by cases h
 |v::K,i,p,h=>by
  rw[OG]at h
  have key:p∈FD O (i+1) K->∃k,k<(v::K).length/\p=((v::K).getD k undef,.own (i+k)):=λh=>by
   obtain⟨k,A,B⟩:=KP h;exact⟨k+1,by simpa using A,by rw[B,show i+1+k=i+(k+1)by omega];rfl⟩
  split at h
  .exact key h
  .rcases YaK.1 h with rfl | h
   .exact ⟨0,by simp,rfl⟩
   .exact key h
theorem Ry{lost:List Nat}:∀{vs:List Value} {i k:Nat},k<vs.length->i+k∉lost->(vs.getD k undef,AV.own (i+k))∈FD lost i vs
 | [],i,k,h,_=>by simp at h
 | v::vs,i,0,h,hl=>by
  rw [OG,Yai (by simpa using hl)]
  exact Ybn
 | v::vs,i,k+1,h,hl=>by
  have:=Ry (lost:=lost) (vs:=vs) (i:=i+1) (k:=k) (by simpa using h) (by rwa [show i+1+k=i+(k+1) by omega])
  rw [show i+1+k=i+(k+1) by omega] at this
  rw [OG]
  split
  .exact this
  .exact Ybc _ this
def IF(s:GS)(W:Nat->Value)(G:List Ow)(b:Nat):Prop:=∃i o,G[i]? = some o/\OwB s (W i) o b
def Sep(s:GS)(W:Nat->Value)(G:List Ow):Prop:=∀i j o w,i≠j->G[i]? = some o->G[j]? = some w->∀b,OwB s (W i) o b->¬OwB s (W j) w b
structure Aft(s:GS)(ρ:Nat->Value)(hp:List Ow)(lost:List Nat)(s':GS)(ρ':Nat->Value)(hp':List Ow):Prop where
 le:GS.LeX (IF s ρ hp) s s'
 ok:s'.Ok
 mem:HpOk 0 ρ' s' hp'
 sep:Sep s' ρ' hp'
 own:∀i o b,hp'[i]? = some o->OwB s' (ρ' i) o b->IF s ρ hp b\/s.w.heap.size<=b
 kp:∀i,i<hp.length->i∉lost->ρ' i=ρ i
 len:hp.length<=hp'.length
def Con(P:Program)(f:FuncId)(args:List AV)(G:List Ow)(O:List Nat)(Q:AV->List Ow->Prop):Prop:=
 (∀args w,(callFunc f args).run P w=.ok (.enter f args) w)/\∀(s:GS) (W:Nat->Value) (K:List Value),s.Ok->HpOk 0 W s G->Sep s W G->K.length=args.length->(∀(k:Nat) av,args[k]? = some av->AVr G.length W s av (K.getD k undef)) ->
  Calls P f K.toArray s.w λe N=>∃v,e=.returned v/\∃(j:GS) (A:Nat->Value) (r:AV) (z:List Ow),Q r z/\j.w=N/\AVr z.length A j r v/\Aft s W G O j A z
theorem Con.mono{f:FuncId}{lost:List Nat}{Q G:AV->List Ow->Prop}(h:Con P f i H lost Q)(l:∀r z,Q r z->G r z):Con P f i H lost G:=
 ⟨h.1,λs W K A B L S n=>(h.2 s W K A B L S n).mono λe N ⟨v,b,j,E,r,z,F,C⟩=>⟨v,b,j,E,r,z,l r z F,C⟩⟩
def IZ:Nat->List AV->List (Nat×AV)
 |_,[]=>[]
 |i,d::R=>(i,d)::IZ (i+1) R
theorem Kg:∀{R:List AV} {i t:Nat} {I:AV},Ch (IZ i R) t=some I->i<=t/\R[t-i]? = some I
 |[],i,t,I,h=>by cases h
 |d::R,i,t,I,h=>by
  unfold IZ at h;rw[CY]at h;split at h
  .rename_i e
   subst e;cases h;exact⟨Yah _,by simp⟩
  .rename_i e
   obtain⟨A,B⟩:=Kg h;refine⟨by omega,?_⟩;rw[show t-i=(t-(i+1))+1 by omega];exact Zjl
structure RetsA(P:Program)(σ:AS)(rs:Array ResultVar)(r:AV):Prop where
 run:∀(base:Nat) (ρ:Nat->Value) (s:GS) (tmps:Array Value) (fn:Func),fn.results=rs->HpOk base ρ s σ.hp->(∀t av,Ch σ.fr t=some av->AVr σ.hp.length ρ s av (tmps.getD t undef))->∃v,(results fn tmps).run P s.w=.ok v s.w/\AVr σ.hp.length ρ s r v
theorem RetsA.d{σ:AS}{rs:Array ResultVar}(h:Rets P σ rs r):RetsA P σ rs (.d r):=⟨h.run⟩
theorem RetsA.one{r:AV}(h:Ch ve.fr n=some r):RetsA P ve #[.tmp n] r:=⟨λ_ _ _ x _ t _ R=>⟨_,TR t (rv:=.tmp n) rfl,R n r h⟩⟩
theorem RetsA.none{σ:AS}:RetsA P σ #[] (.d CD):=⟨λ_ _ s x Z t _ _=>⟨.tuple #[],by unfold results;rw[t];simp,trivial⟩⟩
structure FinC(P:Program)(fn:Func)(lost:List Nat)(vs:List Value)(Q:AV->List Ow->Prop)(e:Exit)(σ:AS):Prop where
 how:e=.ret\/e=.normal
 res:∃r hp',RetsA P σ fn.results r/\hp'=σ.hp.set vs.length .dead/\Q r hp'
 pin:σ.hp[vs.length]? = some (.pin (FD lost 0 vs))
theorem SR(Q:P.funcs[vd]? = some vP)(F:vP.body=some vp)(xf:∀i w,(callFunc vd i).run P w=.ok (.enter vd i) w)(f:Nat.ble i.length vP.ntmps=true)
  (h:∀(R:An) (d:List Value),d.length=H.length->AWp P R vP.ntmps vp (FinC P vP l d vy) ⟨IZ 0 i,H++[.pin (FD l 0 d)]⟩):Con P vd i H l vy:=by
 refine⟨xf,λs W d Z n xg J O=>calls_of_wp Q F ?_⟩;have x:i.length<=vP.ntmps:=by simpa[YdW]using f
 have xb:((List.range H.length).map W).length=H.length:=by simp
 have q:(H++[Ow.pin (FD l 0 ((List.range H.length).map W))]).length=H.length+1:=by simp
 have xa:∀A o,(H++[Ow.pin (FD l 0 ((List.range H.length).map W))])[A]? = some o->H[A]? = some o\/o=Ow.pin (FD l 0 ((List.range H.length).map W)):=λA o K=>ZaN
 have IR:∀k,k<H.length->((List.range H.length).map W).getD k undef=W k:=λk E=>by
  exact ZhT
 refine wp_mono ((h ⟨s,IF s W H,[]⟩ ((List.range H.length).map W) xb).run { tmps:=d.toArray++Array.replicate (vP.ntmps-d.toArray.size) undef,defers:=[] } s.w ⟨s,W,rfl,GS.LeX.refl _ s,Z,λt c M=>?_,by simp;omega,rfl,λA o K=>?_,λA j o V y K G b xd xh=>?_,λA o b K xd=>?_⟩) ?_
 .exact ZaO
 .show OwR 0 (H++[Ow.pin _]).length W s A o
  rw[q];rcases xa A o K with B | rfl
  .exact (n A o B).mono (Yec _) (λ_ _=>rfl) (Cy B)
  .exact ZaP
 .exact ZaQ
 .rcases xa A o K with B | rfl
  .exact .inl ⟨A,o,B,xd⟩
  .exact xd.elim
 .intro e a w ⟨τ,⟨I,⟨r,z,Y,xk,u⟩,xj⟩,N,m,g,T⟩
  subst g;subst xk;rw[xb]at xj u;obtain⟨v,B,C⟩:=Y.run _ m N a.tmps vP rfl T.hp T.fr
  have X:∀A o,(τ.hp.set H.length .dead)[A]? = some o->o=Ow.dead\/τ.hp[A]? = some o:=λA o K=>ZaR
  have U:Aft s W H l N m (τ.hp.set H.length .dead):=ZaS
  have xe:AVr (τ.hp.set H.length .dead).length m N r v:=by rw[Yct];exact C
  rcases I with rfl | rfl
  .exact ⟨T.df,v,B,v,rfl,N,m,r,_,u,rfl,xe,U⟩
  .exact ⟨T.df,v,B,v,rfl,N,m,r,_,u,rfl,xe,U⟩
section
variable {P:Program} {f:FuncId} {fn:Func} {c:Code} {args:List AV} {Q:AV->List Ow->Prop} (hf:P.funcs[f]? = some fn) (hb:fn.body=some c) (hcf:∀args w,(callFunc f args).run P w=.ok (.enter f args) w) (hn:Nat.ble args.length fn.ntmps=true)
include hf hb hcf hn
end
theorem Bt{r:AV}(h:RetsA P ve vP.results r)(Y:GZ ve.hp ue.length .dead=some H)(A:vy r H)(G:ve.hp[ue.length]? = some (.pin (FD l 0 ue))):FinC P vP l ue vy .ret ve:=⟨.inl rfl,⟨r,H,h,(Fo Y),A⟩,G⟩
theorem AW{r:AV}(h:RetsA P ve vP.results r)(Y:GZ ve.hp ue.length .dead=some H)(A:vy r H)(G:ve.hp[ue.length]? = some (.pin (FD l 0 ue))):FinC P vP l ue vy .normal ve:=⟨.inr rfl,⟨r,H,h,(Fo Y),A⟩,G⟩
def AV.ren(e:Nat->Nat):AV->AV
 |.d x=>.d x
 |.ptr i off=>.ptr (e i) off
 |.own i=>.own (e i)
 |.fn f Y=>.fn f (Y.map e)
def Ow.ren(e:Nat->Nat):Ow->Ow
 |.var T cells=>.var T (cells.map (AV.ren e))
 |.pin l=>.pin (l.map λp=>(p.1,p.2.ren e))
 |o=>o
def AV.below(m:Nat):AV->Bool
 |.d _=>true
 |.ptr i _=>Nat.blt i m
 |.own i=>Nat.blt i m
 |.fn _ Y=>Y.all (Nat.blt · m)
def Ow.below(m:Nat):Ow->Prop
 |.var _ cells=>∀I∈cells,I.below m=true
 |.pin l=>∀p∈l,p.2.below m=true
 |_=>True
theorem PY(h:g.below n=true):AVle H n g g:=by
 cases g with
 |d x=>exact AVle.d rfl
 |ptr i off=>exact AVle.ptr h
 |own i=>exact AVle.own h
 |fn f Y=>exact BY h
theorem Ak{m:Nat}{l:List (Value×AV)}(h:l.all (λp=>p.2.below m)=true):OwLe H m (.pin l) (.pin l):=OwLe.pin λp H=>PY (Yaj.1 h p H)
theorem Ad{m T:Nat}{c:List AV}(h:c.all (AV.below m)=true):OwLe H m (.var T c) (.var T c):=OwLe.var rfl λk y O=>⟨y,O,PY (Yaj.1 h y (YaE O))⟩
theorem QK:OwB s z (vs.ren vE) n↔OwB s z vs n:=by cases vs<;>exact YdO
theorem AVr.un{e:Nat->Nat}(h:AVr n vi s (g.ren e) z)(F:g.below b=true)(G:∀i,i<b->ud i=vi (e i)):AVr b ud s g z:=by
 cases g with
 |d x=>exact h
 |ptr i off=>
  have K:i<b:=by simpa[AV.below,Ybm]using F
  obtain⟨B,A,C,L⟩:=h;exact⟨K,A,(G i K).trans C,L⟩
 |own i=>
  have K:i<b:=by simpa[AV.below,Ybm]using F
  exact⟨K,h.2.trans (G i K).symm⟩
 |fn f Y=>
  have K:∀i∈Y,i<b:=λi K=>by
   have:=Yaj.1 F i K;simpa[Ybm]using this
  refine⟨K,?_⟩;have C:=h.2;rw[Ycc]at C;rw[C];exact congrArg (fnV f) (YaX λi E=>(G i (K i E)).symm)
theorem AVr.re(h:AVr n vi s g z)(E:∀i,i<n->vE i<b)(F:∀i,i<n->ud (vE i)=vi i):AVr b ud s (g.ren vE) z:=by
 cases g with
 |d x=>exact h
 |ptr i off=>
  obtain⟨B,A,C,L⟩:=h;exact⟨E i B,A,(F i B).trans C,L⟩
 |own i=>exact⟨E i h.1,h.2.trans (F i h.1).symm⟩
 |fn f Y=>
  refine⟨λi K=>?_,?_⟩
  .obtain ⟨j,a,rfl⟩:=YaA.1 K
   exact E j (h.1 j a)
  .rw [Ycc,h.2,YaX λi K=>(F i (h.1 i K)).symm]
   rfl
theorem OwR.un{e:Nat->Nat}(h:OwR 0 n vi s (e T) (vs.ren e))(G:vs.below b)(K:T<b)(Y:∀T,T<b->ud T=vi (e T)):OwR 0 b ud s T vs:=by
 cases vs with
 |dead=>trivial
 |var E cells=>
  obtain⟨A,J,B,C,L,S,N,Q,g⟩:=h;refine⟨A,J,(Y T K).trans B,C,L,by simpa using S,N,Q,λk V F=>?_⟩;obtain⟨u,y,W,X⟩:=g k (V.ren e) (by rw[Yax,F];rfl);exact⟨u,y,W,X.un (G V (YaE F)) Y⟩
 |row E M R=>
  replace h:OwR 0 n vi s (e T) (.row E M R):=h;unfold OwR at h ⊢;rw[Y T K];exact h
 |obj O=>
  show O.rel s (ud T);rw[Y T K];exact h
 |pin l=>exact λp I=>(h (p.1,p.2.ren e) (YbY (f:=λp:Value×AV=>(p.1,p.2.ren e)) I)).un (G p I) Y
theorem OwR.re(h:OwR 0 n vi s T vs)(K:T<n)(I:∀T,T<n->vE T<b)(Z:∀T,T<n->ud (vE T)=vi T):OwR 0 b ud s (vE T) (vs.ren vE):=by
 cases vs with
 |dead=>trivial
 |var E cells=>
  obtain⟨A,J,B,C,L,S,Q,R,g⟩:=h;refine⟨A,J,(Z T K).trans B,C,L,by simpa using S,Q,R,λk W F=>?_⟩;rw[Yax]at F
  cases a:cells[k]? with
  |none=>rw[a]at F;cases F
  |some c=>
   rw[a]at F;cases F;obtain⟨u,y,X,Y⟩:=g k c a;exact⟨u,y,X,Y.re I Z⟩
 |row E M V=>
  show OwR 0 b ud s (vE T) (.row E M V);unfold OwR at h ⊢;rw[Z T K];exact h
 |obj O=>
  show O.rel s (ud (vE T));rw[Z T K];exact h
 |pin l=>
  intro p G;obtain⟨q,N,rfl⟩:=YaA.1 G;exact(h q N).re I Z
def BO(sel:List Nat)(m k:Nat):Nat:=bif Nat.blt k sel.length then sel.getD k 0 else m+(k-sel.length)
theorem Ft(h:b<l.length):BO l n b=l.getD b 0:=by
 have:Nat.blt b l.length=true:=by simpa[Ybm]using h
 rw[BO,this];rfl
theorem Kn(h:l.length<=b):BO l n b=n+(b-l.length):=by
 have:Nat.blt b l.length=false:=by cases F:Nat.blt b l.length<;>simp_all [Ybm];omega
 rw[BO,this];rfl
def SelR(e:Nat->Nat)(H:List Ow)(m:Nat):List Nat->List Ow->Prop
 |[],[]=>True
 |j::f,o::os=>H[j]? = some (o.ren e)/\o.below m/\SelR e H m f os
 |_,_=>False
theorem SelR.get{e:Nat->Nat}{H:List Ow}{m:Nat}:∀{f:List Nat} {os:List Ow},SelR e H m f os->f.length=os.length/\∀(k:Nat) o,os[k]? = some o->H[f.getD k 0]? = some (o.ren e)/\o.below m
 |[],[],_=>⟨rfl,λk o h=>by cases h⟩
 |[],_::_,h=>h.elim
 |_::_,[],h=>h.elim
 |j::f,o::os,⟨A,B,L⟩=>by
  obtain⟨S,n⟩:=SelR.get L;refine⟨by simp[S],λk x E=>?_⟩
  cases k with
  |zero=>cases E;exact⟨A,B⟩
  |succ k=>exact n k x Zed
def SetR(e:Nat->Nat):List Ow->List Nat->List Ow->List Ow->Prop
 |H,[],_,F=>H=F
 |H,j::f,o::os,F=>SetR e (H.set j (o.ren e)) f os F
 |_,_::_,[],_=>False
theorem SetR.get{e:Nat->Nat}:∀{f:List Nat} {H os F:List Ow},SetR e H f os F->F.length=H.length/\f.length<=os.length/\∀(i:Nat) x,F[i]? = some x->(∃k o,k<f.length/\f.getD k 0=i/\os[k]? = some o/\x=o.ren e)\/(i∉f/\H[i]? = some x)
 |[],H,os,F,h=>by
  have h:H=F:=by cases os<;>exact h
  subst h;exact⟨rfl,Yaw _,λi x E=>.inr ⟨by simp,E⟩⟩
 |_::_,_,[],_,h=>h.elim
 |j::f,H,o::os,F,h=>by
  replace h:SetR e (H.set j (o.ren e)) f os F:=h;obtain⟨A,B,L⟩:=SetR.get h;refine⟨by simpa using A,by simp;omega,λi x E=>?_⟩;rcases L i x E with⟨k,w,S,n,C,g⟩ | ⟨S,n⟩
  .exact .inl ⟨k+1,w,by simp;omega,by simpa using n,by simpa using C,g⟩
  .rw [YbZ]at n
   split at n
   .rename_i Z
    subst Z;split at n
    .exact .inl ⟨0,o,by simp,rfl,rfl,(Yag n).symm⟩
    .cases n
   .rename_i Z
    exact .inr ⟨by simp only[YaK,not_or];exact⟨λe=>Z e.symm,S⟩,n⟩
theorem Ub(h:l.Nodup)(K:n<l.length)(a:b<l.length)(e:l[n]=l[b]):n=b:=by
 rcases Ycl n b with A | A | A
 .exact absurd e (YcL.1 h n b K a A)
 .exact A
 .exact absurd e.symm (YcL.1 h b n a K A)
def AV.avoid(lost:List Nat):AV->Bool
 |.d _=>true
 |.ptr i _=>!lost.contains i
 |.own i=>!lost.contains i
 |.fn _ Y=>Y.all λi=>!lost.contains i
def Ow.avoid(lost:List Nat):Ow->Prop
 |.var _ cells=>∀I∈cells,I.avoid lost=true
 |.pin l=>∀p∈l,p.2.avoid lost=true
 |_=>True
theorem RG(h:(!l.contains n)=true):n∉l:=λx=>by
 rw[YbG.2 x]at h;cases h
theorem AVr.kept(h:AVr n vi s g z)(E:n<=b)(p:g.avoid l=true)(F:∀i,i<n->i∉l->ud i=vi i):AVr b ud s g z:=by
 cases g with
 |d x=>exact h
 |ptr i off=>
  obtain⟨B,A,C,L⟩:=h;exact⟨Yaq B E,A,(F i B (RG p)).trans C,L⟩
 |own i=>exact⟨Yaq h.1 E,h.2.trans (F i h.1 (RG p)).symm⟩
 |fn f Y=>exact⟨λi K=>Yaq (h.1 i K) E,by rw[h.2,YaX λi K=>(F i (h.1 i K) (RG (Yaj.1 p i K))).symm]⟩
theorem OwR.kept(h:OwR 0 n vi s T vs)(x:n<=b)(R:vs.avoid l)(K:T<n)(J:T∉l)(a:∀T,T<n->T∉l->ud T=vi T):OwR 0 b ud s T vs:=by
 cases vs with
 |dead=>trivial
 |var F cells=>
  obtain⟨A,M,B,E,L,S,Q,V,g⟩:=h;refine⟨A,M,(a T K J).trans B,E,L,S,Q,V,λk X G=>?_⟩;obtain⟨u,y,Y,Z⟩:=g k X G;exact⟨u,y,Y,Z.kept x (R X (YaE G)) a⟩
 |row F N W=>
  unfold OwR at h ⊢;rw[a T K J];exact h
 |obj O=>
  unfold OwR at h ⊢;rw[a T K J];exact h
 |pin C=>exact λp I=>(h p I).kept x (R p I) a
theorem StI.con{s0:An}{sel lost:List Nat}{hpS hp' H1:List Ow}(X:(∀p∈ve.fr,p.2.avoid (lost.map (BO sel ve.hp.length))=true)/\∀i o,i∉sel->ve.hp[i]? = some o->o.avoid (lost.map (BO sel ve.hp.length)))(xg:∀k∈lost,k<sel.length)(h:StI s0 n ve vl s vi)(xd:sel.Nodup)(xa:SelR (BO sel ve.hp.length) ve.hp hpS.length sel hpS)
  (xb:Aft s (λk=>vi (BO sel ve.hp.length k)) hpS lost vr ud hp') (H:SetR (BO sel ve.hp.length) ve.hp sel hp' H1) :
  ∃xj,StI s0 n ⟨ve.fr,H1++(hp'.drop sel.length).map (Ow.ren (BO sel ve.hp.length))⟩ vl vr xj/\∀J v,AVr hp'.length ud vr J v->AVr (H1++(hp'.drop sel.length).map (Ow.ren (BO sel ve.hp.length))).length xj vr (J.ren (BO sel ve.hp.length)) v:=by
 obtain⟨V,R⟩:=xa.get;obtain⟨z,xm,xk⟩:=H.get;have q:(H1++(hp'.drop sel.length).map (Ow.ren (BO sel ve.hp.length))).length=ve.hp.length+(hp'.length-sel.length):=by simp[z]
 have xi:∀k,k<sel.length->sel.getD k 0<ve.hp.length:=λk C=>by
  have c:k<hpS.length:=by omega
  exact Cy (R k _ (Yac c)).1
 have xo:∀k,k<sel.length->sel.getD k 0∈sel:=λk C=>by
  exact Zhz
 have xt:∀j k,j<sel.length->k<sel.length->sel.getD j 0=sel.getD k 0->j=k:=λj k a C G=>by
  rw[Yab,Yac a,Yab,Yac C]at G;exact Ub xd a C G
 have u:∀i,∃k,(∃W,W<sel.length/\sel.getD W 0=i)->k<sel.length/\sel.getD k 0=i:=λi=>by
  by_cases E:∃W,W<sel.length/\sel.getD W 0=i
  .obtain ⟨k,C⟩:=E
   exact⟨k,λ_=>C⟩
  .exact ⟨0,λh=>absurd h E⟩
 obtain⟨pos,u⟩:∃pos:Nat->Nat,∀i,(∃W,W<sel.length/\sel.getD W 0=i)->pos i<sel.length/\sel.getD (pos i) 0=i:=⟨λi=>(u i).choose,λi=>(u i).choose_spec⟩;let T:Nat->Value:=λi=>if i<ve.hp.length then(if i∈sel then ud (pos i)else vi i)else ud (i-ve.hp.length+sel.length)
 have xw:∀i,i∈sel->∃W,W<sel.length/\sel.getD W 0=i:=λi K=>by
  obtain⟨k,C⟩:=YbK K;have:=(Yae.1 C).1;exact⟨k,this,by rw[Yab,C];rfl⟩
 have xq:∀i,i<hp'.length->T (BO sel ve.hp.length i)=ud i:=λi K=>by
  rcases YaG i sel.length with A | A
  .have L:=u _ ⟨i,A,rfl⟩
   rw[Ft A];show(if sel.getD i 0<ve.hp.length then(if sel.getD i 0∈sel then ud (pos (sel.getD i 0))else _)else _)=_;rw[Yan (xi i A),Yan (xo i A),xt _ _ L.1 A L.2]
  .rw [Kn A]
   show(if _ then _ else ud (ve.hp.length+(i-sel.length)-ve.hp.length+sel.length))=_;rw[Yai ZbD];exact Zhc
 have xr:∀i,i<ve.hp.length->i∉lost.map (BO sel ve.hp.length)->T i=vi i:=λi K xh=>by
  show(if i<ve.hp.length then(if i∈sel then ud (pos i)else vi i)else _)=_;rw[Yan K];by_cases E:i∈sel
  .rw [Yan E]
   obtain⟨A,B⟩:=u i (xw i E);have L:pos i∉lost:=λI=>xh (YaA.2 ⟨pos i,I,by rw[Ft A,B]⟩);rw[xb.kp (pos i) ZbD L,Ft A,B]
  .rw [Yai E]
 have xu:∀i,i∉sel->i∉lost.map (BO sel ve.hp.length):=λi K I=>by
  obtain⟨k,A,B⟩:=YaA.1 I;have L:=xg k A;rw[Ft L]at B;exact K (by rw[<-B];exact xo k L)
 have xf:∀i,i<hp'.length->BO sel ve.hp.length i<ve.hp.length+(hp'.length-sel.length):=λi K=>by
  rcases YaG i sel.length with A | A
  .rw [Ft A]
   have:=xi i A;omega
  .rw [Kn A]
   omega
 have xs:∀i j,i<hp'.length->j<hp'.length->BO sel ve.hp.length i=BO sel ve.hp.length j->i=j:=λi j K a G=>by
  rcases YaG i sel.length with A | A<;>rcases YaG j sel.length with B | B
  .rw [Ft A,Ft B]at G
   exact xt i j A B G
  .rw [Ft A,Kn B]at G
   have:=xi i A;omega
  .rw [Kn A,Ft B]at G
   have:=xi j B;omega
  .rw [Kn A,Kn B]at G
   omega
 have d:∀i x,(H1++(hp'.drop sel.length).map (Ow.ren (BO sel ve.hp.length)))[i]? = some x->(∃k o,hp'[k]? = some o/\i=BO sel ve.hp.length k/\x=o.ren (BO sel ve.hp.length))\/(i<ve.hp.length/\i∉sel/\ve.hp[i]? = some x):=λi x E=>by
  rw[YaQ]at E;split at E
  .rename_i Q
   rcases xk i x E with⟨k,o,A,B,L,S⟩ | ⟨A,B⟩
   .exact .inl ⟨k,o,L,by rw[Ft A];exact B.symm,S⟩
   .exact .inr ⟨by omega,A,B⟩
  .rename_i l
   rw[Yax,YbO]at E
   cases C:hp'[sel.length+(i-H1.length)]? with
   |none=>rw[C]at E;cases E
   |some o=>
    rw[C]at E;exact .inl ⟨_,o,C,by rw[Kn ZbD];omega,(Yag E).symm⟩
 have xn:∀b,IF s (λk=>vi (BO sel ve.hp.length k)) hpS b->∃k o,k<sel.length/\hpS[k]? = some o/\ve.hp[sel.getD k 0]? = some (o.ren (BO sel ve.hp.length))/\OwB s (vi (sel.getD k 0)) (o.ren (BO sel ve.hp.length)) b:=λb ⟨k,o,A,B⟩=>by
  have C:k<sel.length:=by have:=Cy A;omega
  replace B:OwB s (vi (BO sel ve.hp.length k)) o b:=B;rw[Ft C]at B;exact⟨k,o,C,A,(R k o A).1,QK.2 B⟩
 have m:∀i x,i∉sel->ve.hp[i]? = some x->∀b,OwB s (vi i) x b->¬IF s (λk=>vi (BO sel ve.hp.length k)) hpS b:=λi x K E b F I=>by
  obtain⟨k,o,A,B,L,S⟩:=xn b I;exact h.sep i _ x _ (λe=>K (by rw[e];exact xo k A)) E L b F S
 have xv:∀i x,i∉sel->ve.hp[i]? = some x->∀b,OwB s (vi i) x b->vr.w.heap[b]? = s.w.heap[b]? /\ ∀k,vr.S b k↔s.S b k:=λi x K E b F=>by
  have A:=m i x K E b F;have B:=(h.hp i x E).blk_lt0 F;exact⟨xb.le.block b B A,λk=>⟨xb.le.old b k B A,xb.le.chg.up b k⟩⟩
 have xc:∀i x,i<ve.hp.length->i∉sel->ve.hp[i]? = some x->∀b,OwB vr (T i) x b->OwB s (vi i) x b:=λi x Q K E b F=>OwB.keep (h.hp i x E) xb.le.chg (xv i x K E) (by rw[<-xr i Q (xu i K)];exact F)
 have P:∀k o b,hp'[k]? = some o->OwB vr (T (BO sel ve.hp.length k)) (o.ren (BO sel ve.hp.length)) b->OwB vr (ud k) o b:=λk o b C F=>by
  rw[xq k (Cy C)]at F;exact QK.1 F
 have xp:∀b,IF s (λk=>vi (BO sel ve.hp.length k)) hpS b->s0.mine b\/s0.g.w.heap.size<=b:=λb I=>by
  obtain⟨k,o,A,B,L,S⟩:=xn b I;exact h.own _ _ b L S
 refine⟨T,⟨?_,xb.ok,λt J M=>?_,h.sz,h.df,λi x E=>?_,λi j x y Z E O b xl xe=>?_,λi x b E F=>?_⟩,λJ v r=>?_⟩
 .refine ⟨xb.le.os.trans h.le.os,xb.le.tape.trans h.le.tape,xb.le.output.trans h.le.output,λk C I=>?_,h.le.chg.trans xb.le.chg,λb k F I Y=>?_,λb F=>(xb.le.tag b (Yaq F h.le.size)).trans (h.le.tag b F),λ_=>xb.ok⟩
  .have f:¬IF s (λk=>vi (BO sel ve.hp.length k)) hpS k:=λE=>(xp k E).elim I λN=>absurd C ZbD
   exact(xb.le.block k (Yaq C h.le.size) f).trans (h.le.block k C I)
  .have f:¬IF s (λk=>vi (BO sel ve.hp.length k)) hpS b:=λE=>(xp b E).elim I λN=>absurd F ZbD
   exact h.le.old b k F I (xb.le.old b k (Yaq F h.le.size) f Y)
 .show AVr (H1++_).length T vr J _
  rw[q];exact((h.fr t J M).chg xb.le.chg).kept ZbD (X.1 _ (Fe M)) xr
 .show OwR 0 (H1++_).length T vr i x
  rw[q];rcases d i x E with⟨k,o,A,rfl,rfl⟩ | ⟨A,B,L⟩
  .exact (xb.mem k o A).re (Cy A) xf xq
  .exact ((h.hp i x L).keep xb.le.chg (xv i x B L)).kept ZbD (X.2 i x B L) A (xu i B) xr
 .rcases d i x E with⟨k,o,A,rfl,rfl⟩ | ⟨A,B,L⟩<;>rcases d j y O with⟨W,w,S,rfl,rfl⟩ | ⟨S,h5,h6⟩
  .exact xb.sep k W o w (λe=>Z ZeT) A S b (P k o b A xl) (P W w b S xe)
  .have U:=xc j y S h5 h6 b xe
   rcases xb.own k o b A (P k o b A xl)with g | g
   .exact m j y h5 h6 b U g
   .have:=(h.hp j y h6).blk_lt0 U
    omega
  .have U:=xc i x A B L b xl
   rcases xb.own W w b S (P W w b S xe)with g | g
   .exact m i x B L b U g
   .have:=(h.hp i x L).blk_lt0 U
    omega
  .exact h.sep i j x y Z L h6 b (xc i x A B L b xl) (xc j y S h5 h6 b xe)
 .rcases d i x E with⟨k,o,A,rfl,rfl⟩ | ⟨A,B,L⟩
  .rcases xb.own k o b A (P k o b A F)with g | g
   .exact xp b g
   .exact .inr (Yat h.le.size g)
  .exact h.own i x b L (xc i x A B L b F)
 .rw [q]
  exact r.re xf xq
def AbM(G:List Ow)(e:Nat->Nat)(m:Nat)(y a:AV):Prop:=(∃d A,a=.d d/\HW G y=some A/\D.le A d)\/(y=a.ren e/\a.below m=true)
def ArgsC(G:List Ow)(e:Nat->Nat)(m:Nat)(arg:Operand->AV):List Operand->List AV->Prop
 |[],[]=>True
 |x::l,a::B=>AbM G e m (arg x) a/\ArgsC G e m arg l B
 |_,_=>False
theorem ArgsC.get{G:List Ow}{e:Nat->Nat}{m:Nat}{arg:Operand->AV}:∀{l:List Operand} {C:List AV},ArgsC G e m arg l C->l.length=C.length/\∀(k:Nat) a,C[k]? = some a->∃x,l[k]? = some x/\AbM G e m (arg x) a
 |[],[],_=>⟨rfl,λk o h=>by cases h⟩
 |[],_::_,h=>h.elim
 |_::_,[],h=>h.elim
 |x::l,a::C,⟨A,B⟩=>by
  obtain⟨S,n⟩:=ArgsC.get B;refine⟨by simp[S],λk y O=>?_⟩
  cases k with
  |zero=>cases O;exact⟨x,rfl,A⟩
  |succ k=>simpa using n k y (by simpa using O)
theorem ArgsC.nil{hp:List Ow}{e:Nat->Nat}{m:Nat}:ArgsC hp e m vC [] []:=trivial
theorem ArgsC.d{hp:List Ow}{e:Nat->Nat}{m:Nat}{arg:Operand->AV}{l:List Operand}{d A:D}(h:HW hp (arg x)=some A)(J:D.le A d)(X:ArgsC hp e m arg l i):ArgsC hp e m arg (x::l) (.d d::i):=⟨.inl ⟨d,A,rfl,h,J⟩,X⟩
theorem ArgsC.av{hp:List Ow}{e:Nat->Nat}{m:Nat}{l:List Operand}{a:AV}(h:vC x=a.ren e)(F:a.below m=true)(X:ArgsC hp e m vC l i):ArgsC hp e m vC (x::l) (a::i):=⟨.inr ⟨h,F⟩,X⟩
theorem SelR.nil{e:Nat->Nat}{m:Nat}:SelR e H m [] []:=trivial
theorem SelR.row{e:Nat->Nat}{m j T sz:Nat}(h:H[j]? = some (.row T sz vm))(X:SelR e H m l vz):SelR e H m (j::l) (.row T sz vm::vz):=⟨h,trivial,X⟩
theorem SelR.varA{e:Nat->Nat}{m j:Nat}(h:H[j]? = some (.var t ut))(B:ut=i.map (AV.ren e))(F:i.all (AV.below m)=true)(X:SelR e H m l vz):SelR e H m (j::l) (.var t i::vz):=⟨by rw[h,B];rfl,Yaj.1 F,X⟩
def OwRen(e:Nat->Nat)(o w:Ow):Prop:=w=o.ren e
theorem OwRen.dead{e:Nat->Nat}:OwRen e .dead .dead:=rfl
theorem SetR.nil{e:Nat->Nat}:SetR e H [] vz H:=by cases vz<;>rfl
theorem SetR.cons{e:Nat->Nat}{H r os F:List Ow}{j:Nat}(h:OwRen e vs uE)(Y:GZ H j uE=some r)(X:SetR e r l os F):SetR e H (j::l) (vs::os) F:=by
 rw[Fo Y,h]at X;exact X
def AppR(e:Nat->Nat)(H os F:List Ow):Prop:=F=H++os.map (Ow.ren e)
theorem AppR.nil{e:Nat->Nat}:AppR e H [] H:=by simp[AppR]
def Mu:Nat->List Ow->List Ow
 |0,l=>l
 |n+1,_::l=>Mu n l
 |_+1,[]=>[]
theorem NA:∀(n:Nat) (l:List Ow),Mu n l=l.drop n
 |0,l=>rfl
 |n+1,_::l=>NA n l
 |_+1,[]=>rfl
def AVRen(e:Nat->Nat)(a X:AV):Prop:=X=a.ren e
theorem AVRen.d{e:Nat->Nat}{x:D}:AVRen e (.d x) (.d x):=rfl
theorem AVRen.own{e:Nat->Nat}{i j:Nat}(h:e i=j):AVRen e (.own i) (.own j):=by subst h;rfl
theorem A6K(h:l.map vE=f):AVRen vE (.fn vd l) (.fn vd f):=by subst h;rfl
def CapsOk(h:List Ow):List Nat->Prop
 |[]=>True
 |i::l=>(∃T cells,h[i]? = some (.var T cells))/\CapsOk h l
theorem CapsOk.get{hpS:List Ow}:∀{l:List Nat},CapsOk hpS l->∀i∈l,∃T cells,hpS[i]? = some (.var T cells)
 |[],_,i,K=>by cases K
 |j::l,⟨A,B⟩,i,K=>by
  rcases YaK.1 K with rfl | K
  .exact A
  .exact CapsOk.get B i K
def AvoidR(sel lost:List Nat):Nat->List Ow->Prop
 |_,[]=>True
 |i,o::l=>(i∈sel\/o.avoid lost)/\AvoidR sel lost (i+1) l
theorem AvoidR.get{sel lost:List Nat}:∀{l:List Ow} {i:Nat},AvoidR sel lost i l->∀k o,i+k∉sel->l[k]? = some o->o.avoid lost
 |[],_,_,k,o,_,h=>by cases h
 |x::l,i,⟨A,B⟩,0,o,f,h=>by
  cases h;exact A.resolve_left f
 |x::l,i,⟨A,B⟩,k+1,o,f,h=>AvoidR.get B k o (by rwa [show i+1+k=i+(k+1)by omega]) Zdi
section
variable {sel lost:List Nat} {i:Nat} {l:List Ow}
theorem AvoidR.nil:AvoidR sel lost i []:=trivial
theorem Aj(h:sel.contains i=true)(X:AvoidR sel lost (i+1) l):AvoidR sel lost i (vs::l):=⟨.inl (YbG.1 h),X⟩
theorem AvoidR.varD(X:AvoidR sel lost (i+1) l):AvoidR sel lost i (.var t (v.map .d)::l):=⟨.inr λI A=>by obtain⟨d,_,rfl⟩:=YaA.1 A;rfl,X⟩
theorem AvoidR.pin{c:List (Value×AV)}(h:c.all (λp=>p.2.avoid lost)=true)(X:AvoidR sel lost (i+1) l):AvoidR sel lost i (.pin c::l):=⟨.inr (Yaj.1 h),X⟩
end
def LostOk(sel O:List Nat)(m:Nat)(f:List (Nat×AV))(G:List Ow):Prop:=O=[]\/(O.all (Nat.blt · sel.length)=true/\f.all (λp=>p.2.avoid (O.map (BO sel m)))=true/\AvoidR sel (O.map (BO sel m)) 0 G)
theorem AV.avoid_nil(I:AV):I.avoid []=true:=by
 cases I with
 |fn f Y=>exact Yaj.2 λi _=>rfl
 |_=>rfl
theorem Ow.avoid_nil(o:Ow):o.avoid []:=by
 cases o with
 |var T c=>exact λI _=>I.avoid_nil
 |pin l=>exact λp _=>p.2.avoid_nil
 |_=>trivial
theorem LostOk.get{sel lost:List Nat}(h:LostOk sel lost n vc H):((∀p∈vc,p.2.avoid (lost.map (BO sel n))=true)/\∀i o,i∉sel->H[i]? = some o->o.avoid (lost.map (BO sel n)))/\∀k∈lost,k<sel.length:=by
 rcases h with rfl | ⟨h1,h2,h3⟩
 .exact ⟨⟨λp _=>p.2.avoid_nil,λi o _ _=>o.avoid_nil⟩,λk C=>by cases C⟩
 .exact ⟨⟨Yaj.1 h2,λi o K q=>h3.get i o (by rwa [YaH]) q⟩,λk C=>by simpa[Ybm]using Yaj.1 h1 k C⟩
section
variable {P:Program} {s0:An} {n:Nat} {ops:Array Oper} {Q:Exit->AS->Prop} {rest:List Oper} {fr:List (Nat×AV)} {hp:List Ow}
end
end Go.Proofs.YtcikkglcoeedlaaGreat
set_option linter.unusedSimpArgs false
set_option linter.unusedVariables false
namespace Go.Proofs.YtcikkglcoeedlaaGreat
open _root_.Go.Proofs.Tryz
open Go.RowKit
section
variable {P:Program} {s0:An} {n:Nat} {ops:Array Oper} {Q:Exit->AS->Prop} {rest:List Oper} {fr:List (Nat×AV)} {hp:List Ow}
variable{l:List Nat}{H vz uR:List Ow}
theorem Kr{t m:Nat}{r C:AV}(h:AWl P s0 n ops Q rest ⟨(t,C)::fr,uR⟩)(A:AVRen (BO l m) r C:=by first | exact AVRen.d | exact AVRen.own rfl | exact AVRen.ptr rfl | exact A6K rfl)(B:SetR (BO l m) hp l H vz:=by repeat (first | exact SetR.nil | (apply SetR.cons;(first | exact OwRen.dead | exact OwRen.varD | exact OwRen.obj | exact OwRen.row | exact OwRen.varA rfl);exact rfl)))(L:AppR (BO l m) vz (Mu l.length H) uR:=by repeat (first | exact AppR.nil | (apply AppR.cons;(first | exact OwRen.dead | exact OwRen.varD | exact OwRen.obj | exact OwRen.row | exact OwRen.varA rfl);exact rfl))):∃C vz uR,AVRen (BO l m) r C/\SetR (BO l m) hp l H vz/\AppR (BO l m) vz (Mu l.length H) uR/\AWl P s0 n ops Q rest ⟨(t,C)::fr,uR⟩:=⟨_,_,_,A,B,L,h⟩
end
def DownR(id:Nat)(x:D):List Ow->List Ow->Prop
 |[],[]=>True
 |o::l,w::m=>w=o.mapA (down id x)/\DownR id x l m
 |_,_=>False
theorem DownR.eq{id:Nat}{x:D}:∀{l m:List Ow},DownR id x l m->m=l.map (Ow.mapA (down id x))
 |[],[],_=>rfl
 |[],_::_,h=>h.elim
 |_::_,[],h=>h.elim
 |o::l,w::m,⟨A,B⟩=>by rw[Ybf,<-A,DownR.eq B]
section
variable {id:Nat} {x:D} {l l':List Ow}
theorem DownR.nil:DownR id x [] []:=trivial
theorem DownR.row{T sz:Nat}{r:List (List D)}(h:DownR id x l l'):DownR id x (.row T sz r::l) (.row T sz r::l'):=⟨rfl,h⟩
theorem DownR.pin{c:List (Value×AV)}(I:Gq id (c.map (·.2))=true)(h:DownR id x l l'):DownR id x (.pin c::l) (.pin c::l'):=⟨by simp only[Ow.mapA,Rx I],h⟩
def Lf(id:Nat)(x:D):List AV->Option (List AV)
 |[]=>some []
 |.own j::l=>match Lf id x l with
  |some r=>bif Nat.beq j id then some (.d x::r)else some (.own j::r)
  |none=>none
 |.d y::l=>match Lf id x l with
  |some r=>some (.d y::r)
  |none=>none
 |.ptr i off::l=>match Lf id x l with
  |some r=>some (.ptr i off::r)
  |none=>none
 |.fn f c::l=>match Lf id x l with
  |some r=>bif c.contains id then some (.d CD::r)else some (.fn f c::r)
  |none=>none
theorem Yi:∀{c B:List AV},Lf id x c=some B->B=c.map (down id x)
 |[],B,h=>by cases h;rfl
 |I::c,B,h=>by
  have key:∃n,Lf id x c=some n/\B=down id x I::n:=by
   cases I with
   |d y=>unfold Lf at h;split at h<;>first |(cases h;done) |(rename_i n b;cases h;exact⟨n,b,rfl⟩)
   |ptr i o=>unfold Lf at h;split at h<;>first |(cases h;done) |(rename_i n b;cases h;exact⟨n,b,rfl⟩)
   |own j=>
    unfold Lf at h;split at h
    .rename_i n b
     refine⟨n,b,?_⟩
     cases F:Nat.beq j id with
     |true=>rw[F]at h;cases h;exact Zif
     |false=>rw[F]at h;cases h;exact Zif
    .cases h
   |fn f C=>
    unfold Lf at h;split at h
    .rename_i n b
     refine⟨n,b,?_⟩
     cases F:C.contains id with
     |true=>rw[F]at h;cases h;exact Zif
     |false=>rw[F]at h;cases h;exact Zif
    .cases h
  obtain⟨n,A,rfl⟩:=key;rw[Yi A];rfl
variable{t:TypeId}
theorem DownR.varA{c A:List AV}(I:Lf id x c=some A)(h:DownR id x l l'):DownR id x (.var t c::l) (.var t A::l'):=⟨by rw[Yi I];rfl,h⟩
end
section
variable {P:Program} {s0:An} {n:Nat} {ops:Array Oper} {Q:Exit->AS->Prop} {rest:List Oper} {fr:List (Nat×AV)} {hp:List Ow} {ty:TypeId} {ps:String} {af:Array Edge}
variable{vc:List (Nat×AV)}{H vz:List Ow}{x y:Operand}{z u:Value}
theorem Oi{t T I k bytes id m b e:Nat}{d:TypeDesc}{C r2:List (List D)}(E:AS.arg ⟨fr,hp⟩ x=.own id)(O:HW hp (AS.arg ⟨fr,hp⟩ y)=some (slD I k r2))(s:hp[id]? = some (.row T k C))(M:Tab P t (.slice T) m b u)(F:Tab P T d k bytes z)(J:z.cells.size=k)(A:Nat.blt e n=true)(G:(C.length+r2.length)*bytes<=140737488355328)(U:C.length+r2.length<=4611686018427387904)
  (B:JS id (slD T k C) fr=some vc) (a:DownR id (slD T k C) hp H) (Y:GZ H id (.row T k (C++r2))=some vz) (h:AWl P s0 n ops Q rest ⟨(e,.own id)::vc,vz⟩) :
  AWl P s0 n ops Q (⟨some e,.call { callee:=.builtin .append,args:=#[x,y],argTypes:=#[t,t] },ty,ps,af,none⟩::rest) ⟨fr,hp⟩:=by
 refine SX rfl rfl E O s M F J (by simpa[VO]using A) G U ?_;rw[Sl B,Fo Y,a.eq]at h;exact h
def A4G:List AV->Nat->AV->Option (List AV)
 |[],_,_=>none
 |_::l,0,x=>some (x::l)
 |y::l,k+1,x=>match A4G l k x with
  |some r=>some (y::r)
  |none=>none
theorem UZ:∀{l:List AV} {k:Nat} {x:AV} {r:List AV},A4G l k x=some r->k<l.length/\r=l.set k x
 |[],_,_,_,h=>by cases h
 |_::l,0,x,r,h=>by cases h;exact⟨by simp,rfl⟩
 |y::l,k+1,x,r,h=>by
  unfold A4G at h;split at h
  .rename_i C b
   cases h;obtain⟨A,B⟩:=UZ b;exact⟨by simpa using A,by rw[B];rfl⟩
  .cases h
variable{g:AV}{i ut:List AV}{t U:TypeId}
theorem En{d:TypeDesc}{b id off:Nat}(E:AS.arg ⟨fr,hp⟩ x=.ptr id off)(O:AS.arg ⟨fr,hp⟩ y=g)(s:hp[id]? = some (.var U i))(M:Tab P t d 1 b z)(A:One hp g)(X:A4G i off g=some ut)(Y:GZ hp id (.var U ut)=some H)(h:AWl P s0 n ops Q rest ⟨fr,H⟩) :
  AWl P s0 n ops Q (⟨none,.store t x y,ty,ps,af,none⟩::rest) ⟨fr,hp⟩:=by
 obtain⟨B,L⟩:=UZ X;refine SW (o:=⟨none,.store t x y,ty,ps,af,none⟩) rfl rfl rfl E O s M A B ?_;rw[Fo Y,L]at h;exact h
theorem KA{m:Nat}(id k T V:Nat)(r:hp[id]? = some (.var t i))(I:i[k]? = some (.d (ex (.slice none 0 0))))(p:T≠335)(c:0<V)(X:HU hp=some m)(xg:A4G i k (.own m)=some ut)(xe:GZ hp id (.var t ut)=some H)(Y:Gf H (.row T V [])=some vz):AS.le ⟨fr,hp⟩ ⟨fr,vz⟩:=by
 rw[Fd Y,Fo xe];obtain⟨F,xg⟩:=UZ xg;obtain rfl:=FR X;subst xg;have xa:id<hp.length:=Cy r;intro s0 n a w ⟨s,W,l,f⟩;have q:(hp++[Ow.row T V []]).length=hp.length+1:=by simp
 have xd := f.new (GS.Le.refl s) (dst := none) (fun d O => by cases O) (v := .slice none 0 0) (u := .slice none 0 0) (r := .own hp.length) (ow := .row T V []) ⟨Yez _, by simp⟩
  ⟨[],⟨by simp,.inl ⟨by simp,rfl⟩⟩,p,c,λb G=>by simp[DP]at G,λk F=>by simp at F⟩ λb G=>by cases G
 have xc:∀A o,(hp.set id (.var t (i.set k (.own hp.length)))++[Ow.row T V []])[A]? = some o->(A=id/\o=.var t (i.set k (.own hp.length)))\/(hp++[Ow.row T V []])[A]? = some o:=λA o K=>by
  by_cases e:A=id
  .subst e
   rw[Yau (by rw[Yct];exact xa),List.getElem?_set_self xa]at K;exact .inl ⟨rfl,(Yag K).symm⟩
  .rw [YaQ,Yct]at K
   rw[YaQ];by_cases J:A<hp.length
   .rw [Yan J,YcM (λh=>e h.symm)]at K
    rw[Yan J];exact .inr K
   .rw [Yai J]at K
    rw[Yai J];exact .inr K
 have xi:(hp++[Ow.row T V []])[id]? = some (.var t i):=by rw[Yau xa];exact r
 have xh:(hp.set id (.var t (i.set k (.own hp.length)))++[Ow.row T V []]).length=(hp++[Ow.row T V []]).length:=by simp
 have xf:∀A o b,(hp.set id (.var t (i.set k (.own hp.length)))++[Ow.row T V []])[A]? = some o->∀v,OwB s v o b->∃Z,(hp++[Ow.row T V []])[A]? = some Z/\OwB s v Z b:=λA o b K v G=>by
  rcases xc A o K with⟨rfl,rfl⟩ | B
  .exact ⟨_,xi,G⟩
  .exact ⟨o,B,G⟩
 refine⟨s,λA=>if A=hp.length then .slice none 0 0 else W A,l,xd.le,xd.ok,λC g M=>?_,xd.sz,xd.df,λA o K=>?_,λA j o Z xb K N b G z=>?_,λA o b K G=>?_⟩
 .rw [xh]
  exact xd.fr C g M
 .rw [xh]
  rcases xc A o K with⟨rfl,rfl⟩ | B
  .obtain ⟨b,R,q1,U,q3,q4,q5,q6,q7⟩:=xd.hp _ _ xi
   refine⟨b,R,q1,U,q3,by simpa using q4,q5,q6,λj g N=>?_⟩;by_cases e:j=k
   .subst e
    rw[List.getElem?_set_self F]at N;cases N;obtain⟨u,p1,p2,p3⟩:=q7 j _ I;refine⟨u,p1,p2,by rw[q];exact Yez _,?_⟩;have p3:u=.slice none 0 0:=p3;rw[p3];simp
   .rw [YcM (λh=>e h.symm)]at N
    exact q7 j g N
  .exact xd.hp A o B
 .obtain ⟨x,B,E⟩:=xf A o b K _ G
  obtain⟨y,L,S⟩:=xf j Z b N _ z;exact xd.sep A j x y xb B L b E S
 .obtain ⟨x,B,E⟩:=xf A o b K _ G
  exact xd.own A x b B E
end
def HV(P:List Tm):Int:=P.foldl (λd t=>max d (CV t.m 8)) (-1)
variable{vb:List Tm}{n:Nat}
theorem Um(h:n<vb.length):HV (vb.take (n+1))=max (HV (vb.take n)) (CV (BA vb n).m 8):=Uh (λd t=>max d (CV t.m 8)) (-1) h
theorem Zh(P:List Tm)(M:PIn P 0 65535)(f:P.length<=1000000):Abs prog 241 [BS P] (ex (.int .i64 (HV P))):=by
 refine Ab func241 λv=>?_;rw[ntmps241];refine Go ?_;refine AC (λu d=>∃k,k<=P.length/\u=P.length-k/\d=⟨[(3,.d (ex (.int .i64 (HV (P.take k))))),(6,.d (BS P)),(7,.d (ex (.int .i64 (P.length:Nat)))),(8,.d (ex (.int .i64 (k:Nat))))],[]⟩) ?le ⟨0,by omega,rfl,rfl⟩ ?round
 case le=>exact ZjP
 case round=>
  rintro u _ ⟨k,C,rfl,rfl⟩;by_cases Q:k<P.length
  .have V:=M _ (Dw Q)
   have T:=Um Q;have w:=XO (BA P k).m (V.mono ZbD ZbD);refine ZfN ?_;exact Ac (by exact FrLe.cons rfl (AVle.int T.symm)<|Yd<|Yd<|Yd<|FrLe.nil) Zcc
  .exact ZaL
theorem Wh(a:Nat->Int)(h:In8 a (-1000000) 1000000):Abs prog 153 [AP (CM a)] (ex (.int .i64 (CV a 8))):=by
 refine Ab func153 λv=>?_;rw[ntmps153];refine Go ?_;refine AC (λu d=>∃k,k<=8/\u=8-k/\d=⟨[(1,.ptr 0 0),(3,.d (ex (.int .i64 (CV a k)))),(4,.d (ex (.int .i64 (k:Nat))))],[.var 112 ((CM a).map .d)]⟩) ?le ⟨0,by omega,rfl,rfl⟩ ?round
 case le=>exact Ac Zcg ZcA
 case round=>
  rintro u _ ⟨k,C,rfl,rfl⟩;by_cases Q:k<8
  .have A:=h k Q
   have F:=IV h k ZbD;refine Go ?_;exact Zib
  .obtain rfl:k=8:=by omega
   exact Zfu
theorem A6b(P:List Tm)(M:PIn P 0 65535)(f:P.length<=1000000):Abs prog 78 [BS P] (ex (.int .i64 (HV P))):=by
 refine Ab func78 λv=>?_;rw[ntmps78];refine Go ?_;refine AC (λu d=>∃k,k<=P.length/\u=P.length-k/\d=⟨[(0,.d (BS P)),(3,.d (ex (.int .i64 (HV (P.take k))))),(4,.d (ex (.int .i64 (k:Nat))))],[]⟩) ?le ⟨0,by omega,rfl,rfl⟩ ?round
 case le=>exact Ac Zdb Zcc
 case round=>
  rintro u _ ⟨k,C,rfl,rfl⟩;by_cases Q:k<P.length
  .have V:=M _ (Dw Q)
   have T:=Um Q;have o:=Wh (BA P k).m (V.mono ZbD ZbD);refine ZfN ?_;exact Ac (by exact Yd<|FrLe.cons rfl (AVle.int T.symm)<|Yd<|FrLe.nil) Zcc
  .exact ZaL
theorem A66(z:Int)(c:-128<=z)(A:z<=127):Abs prog 222 [ex (.int .i8 z)] (ex (.int .i64 (z.natAbs:Nat))):=by
 by_cases o:z<0
 .refine Ab func222 λv=>?_
  rw[ntmps222]
  repeat (first | refine De rfl rfl ?_;refine⟨_,GE (ao rfl) (Aa rfl) (Aa rfl) ZbD ZbD,?_⟩ | refine De rfl rfl ?_;refine⟨_,SH (ao rfl) ZbD ZbD,?_⟩ | apply Ai | apply AWp.region | (refine De rfl rfl ?_;first | (apply Gp;refine⟨_,AG (ao rfl),?_⟩) | (apply GF;refine⟨_,Bm (ao rfl),?_⟩) | (apply IN;refine⟨_,GV rfl (ao rfl) (ao rfl) ZbO,?_⟩)) | apply AWl.nil | apply Yn | apply BV | apply Ds | (apply Kx;refine Ct ?_))
  exact ZjV
 .refine Ab func222 λv=>?_
  rw[ntmps222]
  repeat (first | refine De rfl rfl ?_;refine⟨_,GE (ao rfl) (Aa rfl) (Aa rfl) ZbD ZbD,?_⟩ | apply Ai | apply AWp.region | (refine De rfl rfl ?_;first | (apply Gp;refine⟨_,AG (ao rfl),?_⟩) | (apply GF;refine⟨_,Bm (ao rfl),?_⟩) | (apply IN;refine⟨_,Im rfl (ao rfl) (ao rfl) ZbO,?_⟩)) | apply AWl.nil | apply Yn | apply GW | apply BV | (apply Kx;refine Cf ?_))
  exact ZjV
def ZA(x:Int)(r:Nat->Int):Nat->Int
 |0=>x
 |j+1=>ZA x r j-((r (j+1)).natAbs:Nat)%(ZA x r j+1)
theorem A0j{x:Int}(r:Nat->Int)(h:0<=x):∀j,0<=ZA x r j/\ZA x r j<=x
 |0=>⟨h,YbL _⟩
 |j+1=>by
  have u:=A0j r h j;have A:=YeF ((r (j+1)).natAbs:Int) (show ZA x r j+1≠0 by omega);have B:=Yel ((r (j+1)).natAbs:Int) (show 0<ZA x r j+1 by omega);simp only[ZA];omega
def Sh(x:Int)(r:Nat->Int)(n:Nat):Nat->Int:=λj=>if j<n then((r (j+1)).natAbs:Nat)%(ZA x r j+1)else 0
variable{a:Int}
theorem A27(r:Nat->Int)(h:0<=a)(n:Nat):In8 (Sh a r n) 0 a:=λj _=>by
 unfold Sh;have u:=A0j r h j;split
 .have A:=YeF ((r (j+1)).natAbs:Int) (show ZA a r j+1≠0 by omega)
  have B:=Yel ((r (j+1)).natAbs:Int) (show 0<ZA a r j+1 by omega);omega
 .omega
theorem A5E(x:Int)(r:Nat->Int)(k:Nat):Rm (Sh x r k) k (((r (k+1)).natAbs:Nat)%(ZA x r k+1))=Sh x r (k+1):=by
 funext j;simp only[Rm,Sh];rcases Ycl j k with h | h | h
 .rw [Yai ZbD,Yan h,Yan ZbD]
 .subst h;simp
 .rw [Yai ZbD,Yai ZbD,Yai ZbD]
def A01(x:Int)(n:Nat)(r:Nat->Int):List Tm:=Xi ((Int.tmod (r 0) 4:Int):Rat) [⟨1,Sh x r n⟩]
def MI(x:Int)(n:Nat)(X:List (Nat->Int)):List Tm:=X.foldl (λa r=>Jb a (A01 x n r)) []
def A1X(X:List (Nat->Int))(n:Nat)(x:Int)(terms:Nat):List Tm:=MI x (min n 4) (X.take (min X.length terms))
theorem A8w(z:Int):-3<=Int.tmod z 4/\Int.tmod z 4<=3:=by
 rcases Int.le_total 0 z with h | h
 .rw [Yck h];omega
 .have:Int.tmod z 4=-((-z)%4):=by
   rw[<-Yck ZbD,Int.neg_tmod,Int.neg_neg]
  omega
variable{b T:Nat}{vA:Rat}
theorem A73(h:PB vb n b a)(Y:RSz vA T):PB (Xi vA vb) n (T+b) a:=by
 unfold Xi;split
 .exact PB.nil
 .rename_i I
  have:=A4q (t:=⟨vA,λ_=>0⟩) (d0:=0) h I Y λi _=>⟨YbL _,YbL _⟩;rwa [Int.zero_add]at this
variable{vh:Nat->Int}
theorem A54(h:In8 vh 0 a):PB [⟨1,vh⟩] 1 1 a:=A3K (show(1:Rat)≠0 by decide) (rsz_one) h
where rsz_one:RSz (1:Rat) 1:=Jr (x:=1) ZbD ZbD
theorem A1A(z:Int):RSz ((Int.tmod z 4:Int):Rat) 1:=by
 have:=A8w z;exact Jr ZbD ZbD
theorem A1M(n:Nat)(r:Nat->Int)(h:0<=a):PB (A01 a n r) 1 2 a:=A73 (A54 (A27 r h n)) (A1A _)
theorem OO{x:Int}{n:Nat}(h:0<=x):∀(X:List (Nat->Int)) (A:List Tm) (k K:Nat),PB A k K x->PB (X.foldl (λa r=>Jb a (A01 x n r)) A) (k+X.length) (K+X.length*3) x
 |[],A,k,K,h=>h
 |r::X,A,k,K,I=>by
  have B:=(I.add (A1M n r h)).mono (Yah _) (Yah _) (Int.max_le.2 ⟨YbL _,YbL _⟩);have:=OO (n:=n) h X _ _ _ B;exact this.mono Zip Zip (YbL _)
theorem A5g(X:List (Nat->Int))(n:Nat)(U:Nat)(h:0<=a):PB (A1X X n a U) U (U*3) a:=by
 have:=OO (n:=min n 4) h (X.take (min X.length U)) [] 0 0 PB.nil;have J:(X.take (min X.length U)).length<=U:=ZgN
 exact this.mono ZbD ZbD (YbL _)
theorem RK(X:List (Nat->Int))(n:Nat){terms k:Nat}(h:0<=a)(C:k<=terms):PB (MI a n (X.take k)) terms (terms*3) a:=by
 have:=OO (n:=n) h (X.take k) [] 0 0 PB.nil;have J:(X.take k).length<=terms:=ZgN
 exact this.mono ZbD ZbD (YbL _)
variable{e:Type}
theorem A5C(f:e->(Nat->Int)->e)(b:e){X:List (Nat->Int)}(h:n<X.length):(X.take (n+1)).foldl f b=f ((X.take n).foldl f b) (Hc X n):=by
 have A:X.take (n+1)=X.take n++[Hc X n]:=by
  rw[YcO,Yac h,Hc,Yab,Yac h];rfl
 rw[A,Yeu];rfl
def A3y(X:List (Nat->Int)):Prop:=∀r∈X,∀j,j<5->-128<=r j/\r j<=127
theorem A3A(T:Nat)(X:List (Nat->Int))(n terms:Nat)(x:Int)(G:A3y X)(f:n<=8)(M:terms<=1000)(c:0<=x)(e:x<=1000):Abs prog 126 [AP [r5D T X],ex (.int .i64 (n:Nat)),ex (.int .i64 x),ex (.int .i64 (terms:Nat))] (BS (A1X X n x terms)):=by
 refine Ab func126 λv=>?_;rw[ntmps126]
 repeat (first | apply Ai | apply AWp.region | (apply A6C;refine Bx ?_) | (apply A8U;refine WQ (Aa rfl) (Aa rfl) rfl rfl rfl rfl rfl ?_) | (refine De rfl rfl ?_;(apply GF;refine⟨_,Bm (ao rfl),?_⟩)) | apply AWl.nil | apply Yn | apply AWp.block)
 refine AC (λu d=>∃k,k<=min X.length terms/\u=min X.length terms-k/\d=⟨[(1,.d (ex (.int .i64 (n:Nat)))),(2,.d (ex (.int .i64 x))),(3,.d (ex (.int .i64 (terms:Nat)))),(4,.ptr 0 0),(9,.d (BS (MI x (min n 4) (X.take k)))),(10,.d (ex (.int .i64 (k:Nat))))],[.var 212 ([r5D T X].map .d)]⟩) ?le ⟨0,by omega,rfl,rfl⟩ ?round
 case le=>exact Ac (by repeat (first | exact FrLe.nil | refine Yd ?_ | refine Yp ?_ | refine FrLe.cons rfl (Is rfl (D.le.refl _)) ?_)) ZdM
 case round=>
  rintro u _ ⟨k,C,rfl,rfl⟩;by_cases Q:k<min X.length terms
  .have y:k<X.length:=by omega
   have N:k<terms:=by omega
   repeat (first | apply Ai | apply AWp.region | (apply Zn;refine Al ?_) | (apply SN;refine Sf ?_) | (refine De rfl rfl ?_;first | (apply Gp;refine⟨_,AG (ao rfl),?_⟩) | (apply GF;refine⟨_,Bm (ao rfl),?_⟩) | (apply QL;refine⟨_,BU (ao rfl) rfl (Aa rfl) rfl rfl,?_⟩) | (apply In;refine⟨_,Il (ao rfl) (Aa rfl) rfl (Aa rfl) rfl,?_⟩) | (apply A1c;refine⟨_,Bi rfl (Aa rfl),?_⟩) | (apply IN;refine⟨_,GV rfl (ao rfl) (ao rfl) ZbO,?_⟩) | (apply Oe;refine⟨_,HK (ao rfl) (ao rfl),?_⟩) | (apply Zm;(refine Ly (Aa rfl) (Aa rfl) rfl rfl ?_;(repeat ((first | refine⟨_,Aw (ao rfl),?_⟩ | refine⟨_,Po rfl,?_⟩);refine⟨_,rfl,?_⟩));refine⟨_,rfl,?_⟩))) | (refine Pt rfl rfl rfl rfl rfl ?_;first | (apply Gp;refine⟨_,AG (ao rfl),?_⟩) | (apply IN;refine⟨_,GV rfl (ao rfl) (ao rfl) ZbO,?_⟩)) | apply AWl.nil | apply Yn | apply AWp.block | apply GW | (apply Kx;refine Ct ?_))
   refine AC (λu d=>∃i,i<=min n 4/\u=min n 4-i/\d=⟨[(1,.d (ex (.int .i64 (n:Nat)))),(2,.d (ex (.int .i64 x))),(3,.d (ex (.int .i64 (terms:Nat)))),(4,.ptr 0 0),(9,.d (BS (MI x (min n 4) (X.take k)))),(10,.d (ex (.int .i64 (k:Nat)))),(11,.ptr 1 0),(12,.d (ex (.int .i64 (ZA x (Hc X k) i)))),(13,.d (ex (.int .i64 (i:Nat))))],[.var 212 ([r5D T X].map .d),.var 112 ((CM (Sh x (Hc X k) i)).map .d)]⟩) ?lei ⟨0,by omega,rfl,rfl⟩ ?roundi
   case lei=>exact Ac (by repeat (first | exact FrLe.nil | refine Yd ?_ | refine Yp ?_)) ZdM
   case roundi=>
    rintro u _ ⟨i,K,rfl,rfl⟩;by_cases V:i<min n 4
    .have J:=A0j (Hc X k) c i
     have B:=G _ (XW y) (i+1) ZbD;have Y:Rm (Sh x (Hc X k) i) i (((Hc X k (i+1)).natAbs:Nat)%(ZA x (Hc X k) i+1)) i=((Hc X k (i+1)).natAbs:Nat)%(ZA x (Hc X k) i+1):=Yan rfl;have L:=YeF ((Hc X k (i+1)).natAbs:Int) (show ZA x (Hc X k) i+1≠0 by omega);have b:=Yel ((Hc X k (i+1)).natAbs:Int) (show 0<ZA x (Hc X k) i+1 by omega)
     repeat (first | refine De rfl rfl ?_;refine⟨_,NY (ao rfl) (ao rfl) ZbD,?_⟩ | refine De rfl rfl ?_;refine⟨_,HL (ao rfl) (Aa rfl) rfl (A3X (show i+1<5 by omega)),?_⟩ | apply Ai | apply AWp.region | (apply SN;refine LA (ao rfl) (ao rfl) rfl (Aa rfl) ZbU (SetAt.mon ZbR) rfl ?_) | (refine De rfl rfl ?_;first | (apply Gp;refine⟨_,AG (ao rfl),?_⟩) | (apply GF;refine⟨_,Bm (ao rfl),?_⟩) | (apply QL;first | refine⟨_,BU (ao rfl) rfl (Aa rfl) rfl rfl,?_⟩ | refine⟨_,Mg (ao rfl) rfl (Aa rfl) rfl (Jm ZbR),?_⟩) | (apply In;refine⟨_,Il (ao rfl) (Aa rfl) rfl (Aa rfl) rfl,?_⟩) | (apply Of;first | refine⟨_,CE rfl (ao rfl) (Aa rfl) (Aa rfl) rfl ZbR,?_⟩ | refine⟨_,MT (ao rfl) (ao rfl) (Aa rfl) (Aa rfl) ZbR,?_⟩ | refine⟨_,Lu (ao rfl) (ao rfl) (Aa rfl) (Aa rfl) ZbR,?_⟩) | (apply A1d;first | refine⟨_,Ik (ao rfl) (ao rfl) ZbD,?_⟩ | refine⟨_,Pn (ao rfl) (ao rfl) ZbD ZbD,?_⟩) | (apply A6s;refine⟨_,Pg (ao rfl) (ao rfl) ZbD ZbD,?_⟩) | (apply A6u;refine⟨_,SG (ao rfl) (ao rfl) ZbD ZbD,?_⟩) | (apply IN;refine⟨_,GV rfl (ao rfl) (ao rfl) ZbO,?_⟩) | (apply Oe;refine⟨_,HK (ao rfl) (ao rfl),?_⟩) | (apply Zl;refine⟨_,BP (ao rfl) (A66 (Hc X k (i+1)) B.1 B.2) ZbV,?_⟩)) | (refine Pt rfl rfl rfl rfl rfl ?_;first | (apply Gp;refine⟨_,AG (ao rfl),?_⟩) | (apply IN;refine⟨_,GV rfl (ao rfl) (ao rfl) ZbO,?_⟩)) | apply AWl.nil | apply Yn | apply AWp.block | apply GW | apply Bh | (apply Kx;refine Ct ?_))
     refine Ah (min n 4-(i+1)) ZbD ⟨i+1,by omega,rfl,rfl⟩ ?_;exact Ac (by repeat (first | exact FrLe.nil | refine Yd ?_ | refine Yp ?_ | refine FrLe.cons rfl (AVle.int (by rw[Y];rfl)) ?_)) (by repeat (first | exact HpLe.nil | refine HpLe.cons (OwLe.varD (by rw[A5E])) ?_ | apply Yv))
    .obtain rfl:i=min n 4:=by omega
     have R:=XW y;have p:=G _ R 0 ZbD;have S:=A8w (Hc X k 0);have l:-3<=Int.tmod (X.getD k default 0) 4/\Int.tmod (X.getD k default 0) 4<=3:=S;have F:=RK X (min n 4) (terms:=terms) c (YbT N);have j:=F.len;have M:=A1M (min n 4) (Hc X k) c;have I:=M.len;have A:=A54 (A27 (Hc X k) c (min n 4));have o:(Hc X k 0).tmod 4=IntKind.i64.wrap ((Hc X k 0).tmod 4):=(IntWalk.i64_in _ ZbD).symm;have E:MI x (min n 4) (X.take (k+1))=Jb (MI x (min n 4) (X.take k)) (A01 x (min n 4) (Hc X k)):=A5C (λa r=>Jb a (A01 x (min n 4) r)) [] y;rcases(show n<=4\/4<n by omega)with O | O
     all_goals
      repeat (first | apply Ai | apply AWp.region | (refine De rfl rfl ?_;first | (apply Gp;refine⟨_,AG (ao rfl),?_⟩) | (apply IN;first | refine⟨_,GV rfl (ao rfl) (ao rfl) ZbO,?_⟩ | refine⟨_,Im rfl (ao rfl) (ao rfl) ZbO,?_⟩) | (apply Oe;first | refine⟨_,HK (ao rfl) (ao rfl),?_⟩ | refine⟨_,JX (ao rfl) (ao rfl),?_⟩)) | refine ST rfl rfl rfl rfl rfl ?_ | (refine Pt rfl rfl rfl rfl rfl ?_;first | (apply Gp;refine⟨_,AG (ao rfl),?_⟩) | (apply IN;refine⟨_,Im rfl (ao rfl) (ao rfl) ZbO,?_⟩)) | apply AWl.nil | apply Yn | apply Cg | apply BE | apply BH | apply BR | (apply Kx;refine Cf ?_))
      refine Dy 16 ?_
      repeat (first | refine⟨_,rfl,?_⟩ | (apply WJ;(refine Xq (AG (ah rfl)) ?_)) | (apply WK;first | (refine Xq (Lt (ah rfl) rfl (Aa rfl) rfl rfl) ?_) | (refine Xq (BU (ah rfl) rfl (Aa rfl) rfl rfl) ?_) | (refine Xq (Gm (ah rfl) (Aa rfl) rfl rfl) ?_)) | (apply Kw;(refine Xq (Il (ah rfl) (Aa rfl) rfl (Aa rfl) rfl) ?_)) | (apply Kv;first | (refine Xq (CE rfl (ah rfl) (Aa rfl) (Aa rfl) rfl ZbR) ?_) | (refine Xq (WE (ah rfl) (ah rfl) (Aa rfl) (Aa rfl) ZbH ZbH rfl) ?_)) | (apply A1f;(refine Xq (QF (ah rfl) (ah rfl) ZbH) ?_)) | (apply Ps;(refine Xq (Cb (ah rfl) (Aa rfl) (Aa rfl) rfl rfl rfl rfl rfl) ?_)) | (apply WL;(refine Xq (GE (ah rfl) (Aa rfl) (Aa rfl) ZbD ZbD) ?_)) | (apply SM;(refine Hq rfl ?_;refine AI (Aa rfl) rfl rfl rfl ?_;(repeat ((first | refine⟨_,Aw (ah rfl),?_⟩ | refine⟨_,Po rfl,?_⟩);refine⟨_,rfl,?_⟩));refine⟨_,rfl,?_⟩;refine⟨_,rfl,?_⟩)) | (apply SL;first | (refine Xq (BP (ah rfl) (EX ((Hc X k 0).tmod 4) ZbD ZbD) ZbV) ?_) | (refine Xq (BP (ah rfl) (EX 1 ZbD ZbD) ZbV) ?_) | (refine Xq (BP (ah rfl) (A0G ((Int.tmod (Hc X k 0) 4:Int):Rat) [⟨1,Sh x (Hc X k) (min n 4)⟩] 1 1 (A1A _) A.sz (A.ex.mono (YbL _) ZbD) ZbS ZbD) ZbV) ?_) | (refine Xq (BP (ah rfl) (A6c (MI x (min n 4) (X.take k)) (A01 x (min n 4) (Hc X k)) (terms*3) 2 F.sz M.sz ZbD ZbD) ZbV) ?_)))
      repeat (first | apply AWp.region | (refine De rfl rfl ?_;first | (apply Gp;refine⟨_,AG (ao rfl),?_⟩) | (apply GF;refine⟨_,Bm (ao rfl),?_⟩) | (apply A1d;refine⟨_,Ik (ao rfl) (ao rfl) ZbD,?_⟩)) | apply AWl.nil | apply Yn | apply Bh)
      refine Ah (min X.length terms-(k+1)) ZbD ⟨k+1,by omega,rfl,rfl⟩ ?_;exact Ac (by repeat (first | exact FrLe.nil | refine Yd ?_ | refine Yp ?_ | refine FrLe.cons rfl (AVle.le (SQ E.symm)) ?_)) ZdM
  .obtain rfl:k=min X.length terms:=by omega
   rcases(show X.length<=terms\/terms<X.length by omega)with M | M
   all_goals
    repeat (first | apply Ai | apply AWp.region | (refine De rfl rfl ?_;first | (apply Gp;refine⟨_,AG (ao rfl),?_⟩) | (apply GF;refine⟨_,Bm (ao rfl),?_⟩) | (apply QL;refine⟨_,BU (ao rfl) rfl (Aa rfl) rfl rfl,?_⟩) | (apply In;refine⟨_,Il (ao rfl) (Aa rfl) rfl (Aa rfl) rfl,?_⟩) | (apply A1c;refine⟨_,Bi rfl (Aa rfl),?_⟩) | (apply IN;first | refine⟨_,GV rfl (ao rfl) (ao rfl) ZbO,?_⟩ | refine⟨_,Im rfl (ao rfl) (ao rfl) ZbO,?_⟩) | (apply Oe;first | refine⟨_,HK (ao rfl) (ao rfl),?_⟩ | refine⟨_,JX (ao rfl) (ao rfl),?_⟩)) | refine ST rfl rfl rfl rfl rfl ?_ | (refine Pt rfl rfl rfl rfl rfl ?_;first | (apply Gp;refine⟨_,AG (ao rfl),?_⟩) | (apply IN;refine⟨_,Im rfl (ao rfl) (ao rfl) ZbO,?_⟩)) | apply AWl.nil | apply Yn | apply Cg | apply BV | apply BE | apply BH | apply BR | (apply Kx;refine Cf ?_))
    exact Yf
theorem A9D{z:Int}(c:-100000<=z)(A:z<=100000):(As z.natAbs).length<=1:=JO Zeo
def gdD(t:Bool)(x:D):D:=⟨λs v=>(t=true->x.rel s v)/\(t=false->v=undef),λh I=>⟨λM=>x.st (h.1 M) I,h.2⟩⟩
variable{p:Bool}{r:D}
theorem A5A(h:p=true):D.le r (gdD p r):=λ_ _ A=>⟨λ_=>A,(λe=>by rw[h]at e;cases e)⟩
theorem A7A(h:p=false):D.le (ex undef) (gdD p r):=λ_ _ A=>⟨(λe=>by rw[h]at e;cases e),λ_=>A⟩
def Ovr(t:Bool)(f:List (Nat×AV))(l:List (Nat×AV)):Prop:=∀p∈l,∃x,p.2=.d x/\Ch f p.1=some (.d (gdD t x))
variable{vc:List (Nat×AV)}
theorem Ovr.nil{t:Bool}:Ovr t vc []:=λp G=>by cases G
theorem Ovr.cons{t:Bool}{f l:List (Nat×AV)}{u:Nat}{x:D}(h:Ch f u=some (.d (gdD t x)))(Y:Ovr t f l):Ovr t f ((u,.d x)::l):=λp G=>by
 rcases YaK.1 G with rfl | G
 .exact ⟨x,rfl,h⟩
 .exact Y p G
variable{g:AV}{uy:List (Nat×AV)}
theorem XQ(h:Ch (vc++uy) n=some g):(∃p∈vc,p.1=n/\p.2=g)\/Ch uy n=some g:=by
 induction vc with
 |nil=>exact .inr h
 |cons p vc u=>
  rw[Ycy,CY]at h;split at h
  .rename_i e
   exact .inl ⟨p,Ybn,e,Yag h⟩
  .rcases u h with⟨q,l,e⟩ | h
   .exact .inl ⟨q,Ybc _ l,e⟩
   .exact .inr h
variable{vl:Act}{s:GS}{H:List Ow}{vi:Nat->Value}
theorem Ovr.sti{s0:An}(h:Ovr p vc uy)(M:p=true)(hst:StI s0 n ⟨vc,H⟩ vl s vi):StI s0 n ⟨uy++vc,H⟩ vl s vi:=⟨hst.le,hst.ok,λu I S=>by
 rcases XQ S with⟨A,z,Z,B⟩ | S
 .obtain ⟨x,C,K⟩:=h A z
  rw[<-B,C];rw[Z]at K;exact(hst.fr u _ K).1 M
 .exact hst.fr u I S,hst.sz,hst.df,hst.hp,hst.sep,hst.own⟩
theorem Ovr.back(h:Ovr p vc uy)(M:p=true):AS.le ⟨(n,.d r)::(uy++vc),H⟩ ⟨(n,.d (gdD p r))::vc,H⟩:=λv A a w ⟨s,W,d,T⟩=>⟨s,W,d,⟨T.le,T.ok,λu I S=>by
 rw[CY]at S;split at S
 .rename_i e
  cases S;have B:=T.fr u (.d r) (by show Ch ((n,.d r)::(uy++vc)) u=_;rw[CY,Yan e]);exact A5A M _ _ B
 .rename_i e
  have m:∀uy:List (Nat×AV),Ch (uy++vc) u≠none:=λuy=>by
   induction uy with
   |nil=>rw[YcH,S];exact λh=>by cases h
   |cons C uy F=>
    rw[Ycy,CY];split
    .exact λh=>by cases h
    .exact F
  cases J:Ch (uy++vc) u with
  |none=>exact absurd J (m uy)
  |some L=>
   have B:=T.fr u L (by show Ch ((n,.d r)::(uy++vc)) u=_;rw[CY,Yai e,J]);rcases XQ J with⟨C,z,Z,E⟩ | J
   .obtain ⟨x,G,K⟩:=h C z
    rw[Z,S]at K;cases K;rw[<-E,G]at B;exact A5A M _ _ B
   .rw [S]at J
    cases J;exact B,T.sz,T.df,T.hp,T.sep,T.own⟩⟩
section
variable {P:Program} {s0:An} {n:Nat} {ops:Array Oper} {Q:Exit->AS->Prop} {rest:List Oper} {fr:List (Nat×AV)} {hp:List Ow} {ty:TypeId} {ps:String} {af:Array Edge}
variable{ui:Op}
theorem Gu{d:Nat}{A t g:Bool}(l:List (Nat×AV))(C:g=(t==A))(q:Ovr g fr l)(O:(ops[b]?).bind (·.dst)=some T)(J:Ch fr T=some (.d (ex (.bool t))))(M:Nat.blt T n=true)(Y:BN ui=true)(e:Nat.blt d n=true)(B:g=true->Quiet P hp ⟨some d,ui,ty,ps,af,some (b,A)⟩ (AS.arg ⟨l++fr,hp⟩) (.d r))(h:AWl P s0 n ops Q rest ⟨(d,.d (gdD g r))::fr,hp⟩):AWl P s0 n ops Q (⟨some d,ui,ty,ps,af,some (b,A)⟩::rest) ⟨fr,hp⟩:=by
 cases N:g with
 |true=>
  have z:t=A:=by rw[N]at C;exact(YcD.1 C.symm)
  subst z;exact Zv (o:=⟨some d,ui,ty,ps,af,some (b,t)⟩) rfl O J (λs W a E K f=>Rv (o:=⟨some d,ui,ty,ps,af,some (b,t)⟩) (n:=n) (σ:=⟨l++fr,hp⟩) Y (show VO (some d) n=true from e) (B N) (Bj (q.back N) h) s W a (q.sti N E) K f) (by simpa[Ybm]using M)
 |false=>
  have G:isB (.bool t) A=false:=by
   rw[N]at C;exact C.symm
  refine ST O J G M e (Bj ?_ h)
  exact λs0 n a w ⟨s,W,F,E⟩=>⟨s,W,F,⟨E.le,E.ok,λu I S=>by
   rw[CY]at S;split at S
   .rename_i L
    cases S;exact A7A N _ _ (E.fr u (.d (ex undef)) (by show Ch ((d,.d (ex undef))::fr) u=_;rw[CY,Yan L]))
   .rename_i L
    exact E.fr u I (by show Ch ((d,.d (ex undef))::fr) u=_;rw[CY,Yai L];exact S),E.sz,E.df,E.hp,E.sep,E.own⟩⟩
theorem EG{d:Nat}(l:p=true->Quiet P hp ⟨some d,ui,ty,ps,af,some (b,true)⟩ (AS.arg ⟨[]++fr,hp⟩) (.d r))(h:AWl P s0 n ops Q rest ⟨(d,.d (gdD p r))::fr,hp⟩)(O:(ops[b]?).bind (·.dst)=some T:=by exact rfl)(J:Ch fr T=some (.d (ex (.bool p))):=by exact rfl)(B:Nat.blt T n=true:=by exact rfl)(Y:BN ui=true:=by exact rfl)(e:Nat.blt d n=true:=by exact rfl):AWl P s0 n ops Q (⟨some d,ui,ty,ps,af,some (b,true)⟩::rest) ⟨fr,hp⟩:=Gu _ ZdO Ovr.nil O J B Y e l h
variable{vw:D}
theorem CG{d:Nat}(A:Nat)(j:Ch fr A=some (.d (gdD p vw)))(l:p=true->Quiet P hp ⟨some d,ui,ty,ps,af,some (b,true)⟩ (AS.arg ⟨[(A,.d vw)]++fr,hp⟩) (.d r))(h:AWl P s0 n ops Q rest ⟨(d,.d (gdD p r))::fr,hp⟩)(O:(ops[b]?).bind (·.dst)=some T:=by exact rfl)(J:Ch fr T=some (.d (ex (.bool p))):=by exact rfl)(B:Nat.blt T n=true:=by exact rfl)(Y:BN ui=true:=by exact rfl)(e:Nat.blt d n=true:=by exact rfl):AWl P s0 n ops Q (⟨some d,ui,ty,ps,af,some (b,true)⟩::rest) ⟨fr,hp⟩:=Gu _ ZdO (Ovr.cons j Ovr.nil) O J B Y e l h
variable{uq:D}
theorem YO{d:Nat}(A:Nat)(j:Ch fr A=some (.d (gdD p vw)))(C:Nat)(E:Ch fr C=some (.d (gdD p uq)))(l:p=true->Quiet P hp ⟨some d,ui,ty,ps,af,some (b,true)⟩ (AS.arg ⟨[(A,.d vw),(C,.d uq)]++fr,hp⟩) (.d r))(h:AWl P s0 n ops Q rest ⟨(d,.d (gdD p r))::fr,hp⟩)(O:(ops[b]?).bind (·.dst)=some T:=by exact rfl)(J:Ch fr T=some (.d (ex (.bool p))):=by exact rfl)(B:Nat.blt T n=true:=by exact rfl)(Y:BN ui=true:=by exact rfl)(e:Nat.blt d n=true:=by exact rfl):AWl P s0 n ops Q (⟨some d,ui,ty,ps,af,some (b,true)⟩::rest) ⟨fr,hp⟩:=Gu _ ZdO (Ovr.cons j (Ovr.cons E Ovr.nil)) O J B Y e l h
theorem Wu4{d:Nat}{t E a q:D}(A:Nat)(j:Ch fr A=some (.d (gdD p t)))(C:Nat)(G:Ch fr C=some (.d (gdD p E)))(R:Nat)(f:Ch fr R=some (.d (gdD p a)))(F:Nat)(I:Ch fr F=some (.d (gdD p q)))(l:p=true->Quiet P hp ⟨some d,ui,ty,ps,af,some (b,true)⟩ (AS.arg ⟨[(A,.d t),(C,.d E),(R,.d a),(F,.d q)]++fr,hp⟩) (.d r))(h:AWl P s0 n ops Q rest ⟨(d,.d (gdD p r))::fr,hp⟩)(O:(ops[b]?).bind (·.dst)=some T:=by exact rfl)(J:Ch fr T=some (.d (ex (.bool p))):=by exact rfl)(B:Nat.blt T n=true:=by exact rfl)(Y:BN ui=true:=by exact rfl)(e:Nat.blt d n=true:=by exact rfl):AWl P s0 n ops Q (⟨some d,ui,ty,ps,af,some (b,true)⟩::rest) ⟨fr,hp⟩:=Gu _ ZdO (Ovr.cons j (Ovr.cons G (Ovr.cons f (Ovr.cons I Ovr.nil)))) O J B Y e l h
theorem Wv0{d:Nat}(l:(!p)=true->Quiet P hp ⟨some d,ui,ty,ps,af,some (b,false)⟩ (AS.arg ⟨[]++fr,hp⟩) (.d r))(h:AWl P s0 n ops Q rest ⟨(d,.d (gdD (!p) r))::fr,hp⟩)(O:(ops[b]?).bind (·.dst)=some T:=by exact rfl)(J:Ch fr T=some (.d (ex (.bool p))):=by exact rfl)(B:Nat.blt T n=true:=by exact rfl)(Y:BN ui=true:=by exact rfl)(e:Nat.blt d n=true:=by exact rfl):AWl P s0 n ops Q (⟨some d,ui,ty,ps,af,some (b,false)⟩::rest) ⟨fr,hp⟩:=Gu _ ZdO Ovr.nil O J B Y e l h
theorem Wv1{d:Nat}(A:Nat)(j:Ch fr A=some (.d (gdD (!p) vw)))(l:(!p)=true->Quiet P hp ⟨some d,ui,ty,ps,af,some (b,false)⟩ (AS.arg ⟨[(A,.d vw)]++fr,hp⟩) (.d r))(h:AWl P s0 n ops Q rest ⟨(d,.d (gdD (!p) r))::fr,hp⟩)(O:(ops[b]?).bind (·.dst)=some T:=by exact rfl)(J:Ch fr T=some (.d (ex (.bool p))):=by exact rfl)(B:Nat.blt T n=true:=by exact rfl)(Y:BN ui=true:=by exact rfl)(e:Nat.blt d n=true:=by exact rfl):AWl P s0 n ops Q (⟨some d,ui,ty,ps,af,some (b,false)⟩::rest) ⟨fr,hp⟩:=Gu _ ZdO (Ovr.cons j Ovr.nil) O J B Y e l h
theorem Wv2{d:Nat}(A:Nat)(j:Ch fr A=some (.d (gdD (!p) vw)))(C:Nat)(E:Ch fr C=some (.d (gdD (!p) uq)))(l:(!p)=true->Quiet P hp ⟨some d,ui,ty,ps,af,some (b,false)⟩ (AS.arg ⟨[(A,.d vw),(C,.d uq)]++fr,hp⟩) (.d r))(h:AWl P s0 n ops Q rest ⟨(d,.d (gdD (!p) r))::fr,hp⟩)(O:(ops[b]?).bind (·.dst)=some T:=by exact rfl)(J:Ch fr T=some (.d (ex (.bool p))):=by exact rfl)(B:Nat.blt T n=true:=by exact rfl)(Y:BN ui=true:=by exact rfl)(e:Nat.blt d n=true:=by exact rfl):AWl P s0 n ops Q (⟨some d,ui,ty,ps,af,some (b,false)⟩::rest) ⟨fr,hp⟩:=Gu _ ZdO (Ovr.cons j (Ovr.cons E Ovr.nil)) O J B Y e l h
end
section
variable {P:Program} {hp:List Ow} {arg:Operand->AV} {dd:Option Tmp} {ty:TypeId} {ps:String} {af:Array Edge} {gd:Option (Nat×Bool)}
variable{x y vS:Operand}
theorem Oa{t u:Bool}(E:arg y=.d (gdD t (ex (.bool u))))(O:arg vS=.d (ex (.bool false)))(I:arg x=.d (ex (.bool t))):Quiet P hp ⟨dd,.pick x y vS,ty,ps,af,gd⟩ arg (.d (ex (.bool (t&&u)))):=by
 cases t with
 |false=>exact PV (o:=⟨dd,.pick x y vS,ty,ps,af,gd⟩) rfl O I
 |true=>
  refine⟨λbase s W i F G d h=>?_⟩;have A:=h x ZcQ;have B:=h y ZcQ;rw[I]at A;rw[E]at B;have Z:i x=.bool true:=A;have C:i y=.bool u:=B.1 rfl;exact Cc (v:=i y) (by simp[execOp,Z,asBool]) ⟨GS.Le.refl s,by rw[C];rfl⟩
theorem NZ{t u:Bool}(E:arg vS=.d (gdD (!t) (ex (.bool u))))(O:arg y=.d (ex (.bool true)))(I:arg x=.d (ex (.bool t))):Quiet P hp ⟨dd,.pick x y vS,ty,ps,af,gd⟩ arg (.d (ex (.bool (t||u)))):=by
 cases t with
 |true=>exact PU (o:=⟨dd,.pick x y vS,ty,ps,af,gd⟩) rfl O I
 |false=>
  refine⟨λbase s W i F G d h=>?_⟩;have A:=h x ZcQ;have B:=h vS ZcQ;rw[I]at A;rw[E]at B;have Z:i x=.bool false:=A;have C:i vS=.bool u:=B.1 rfl;exact Cc (v:=i vS) (by simp[execOp,Z,asBool]) ⟨GS.Le.refl s,by rw[C];rfl⟩
theorem CP{t u:Bool}(E:arg y=.d (gdD t (ex (.bool u))):=by first | exact ao rfl | exact ah rfl)(O:arg vS=.d (ex (.bool false)):=by first | exact ao rfl | exact ah rfl)(I:arg x=.d (ex (.bool t)):=by first | exact ao rfl | exact ah rfl):Quiet P hp ⟨dd,.pick x y vS,ty,ps,af,gd⟩ arg (.d (ex (.bool (t&&u)))):=Oa E O I
theorem NN{t u:Bool}(E:arg vS=.d (gdD (!t) (ex (.bool u))):=by first | exact ao rfl | exact ah rfl)(O:arg y=.d (ex (.bool true)):=by first | exact ao rfl | exact ah rfl)(I:arg x=.d (ex (.bool t)):=by first | exact ao rfl | exact ah rfl):Quiet P hp ⟨dd,.pick x y vS,ty,ps,af,gd⟩ arg (.d (ex (.bool (t||u)))):=NZ E O I
end
structure CutS{ι:Type}(f:ι->AS)(p:ι->Prop)(Q:Exit->AS->Prop)(e:Exit)(σ:AS):Prop where
 h:(e=.normal/\∃i,p i/\AS.le σ (f i))\/(e≠.normal/\Q e σ)
variable{uj:e->Prop}
theorem CutS.normal{f:e->AS}{Q:Exit->AS->Prop}{σ:AS}(i:e)(G:uj i)(J:AS.le σ (f i)):CutS f uj Q .normal σ:=⟨.inl ⟨rfl,i,G,J⟩⟩
variable{ve:AS}
theorem CutS.ret{f:e->AS}{p:e->Prop}{Q:Exit->AS->Prop}(h:Q .ret ve):CutS f p Q .ret ve:=⟨.inr ⟨by simp,h⟩⟩
variable{vp ua:Code}{vk:Exit->AS->Prop}{P:Program}
theorem Zt{s0:An}(f:e->AS)(p:e->Prop)(run:AWp P s0 n vp (CutS f p vk) ve)(k:∀i,p i->AWp P s0 n ua vk (f i)):AWp P s0 n vp (AThen (AWp P s0 n ua vk) vk) ve:=⟨λa w Y=>wp_mono (run.run a w Y) λA X N ⟨j,⟨B⟩,C⟩=>by
 rcases B with⟨rfl,i,K,J⟩ | ⟨hne,hQ⟩
 .exact ⟨j,⟨DT J (k i K)⟩,C⟩
 .refine ⟨j,?_,C⟩
  cases A with
  |normal=>exact absurd rfl hne
  |ret=>exact Ds hQ
  |exit i=>exact BE hQ
  |_=>exact⟨hQ⟩⟩
theorem AWp.cutB{s0:An}(id:Nat)(f:e->AS)(p:e->Prop)(run:AWp P s0 n (.block id vp) (CutS f p vk) ve)(k:∀i,p i->AWp P s0 n ua vk (f i)):AWp P s0 n (.seq (.block id vp) ua) vk ve:=Ai (Zt f p run k)
theorem Zu{s0:An}(id:Nat)(f:e->AS)(p:e->Prop)(run:AWp P s0 n (.block id vp) (CutS f p vk) ve)(k:∀i,p i->AWp P s0 n ua vk (f i)):AWp P s0 n (.block id vp) (AThen (AWp P s0 n ua vk) vk) ve:=Zt f p run k
def CellsLe(G:List Ow)(m:Nat):List AV->List AV->Prop
 |[],[]=>True
 |x::l,y::r=>AVle G m x y/\CellsLe G m l r
 |_,_=>False
theorem CellsLe.nil{hp:List Ow}{m:Nat}:CellsLe hp m [] []:=trivial
theorem CellsLe.cons{m:Nat}{x y:AV}{l r:List AV}(h:AVle H m x y)(Y:CellsLe H m l r):CellsLe H m (x::l) (y::r):=⟨h,Y⟩
theorem CellsLe.get{G:List Ow}{m:Nat}:∀{l r:List AV},CellsLe G m l r->l.length=r.length/\∀(k:Nat) y,r[k]? = some y->∃x,l[k]? = some x/\AVle G m x y
 |[],[],_=>⟨rfl,λk y h=>by cases h⟩
 |[],_::_,h=>h.elim
 |_::_,[],h=>h.elim
 |x::l,y::r,⟨A,B⟩=>by
  obtain⟨L,S⟩:=CellsLe.get B;refine⟨by simp[L],λk z o=>?_⟩
  cases k with
  |zero=>cases o;exact⟨x,rfl,A⟩
  |succ k=>exact S k z (by simpa using o)
theorem OwLe.cells{m T:Nat}{c l:List AV}(h:CellsLe H m c l):OwLe H m (.var T c) (.var T l):=OwLe.var h.get.1 h.get.2
def DsLe:List D->List D->Prop
 |[],[]=>True
 |x::l,y::r=>D.le x y/\DsLe l r
 |_,_=>False
theorem DsLe.nil:DsLe [] []:=trivial
theorem DsLe.cons{x y:D}{l r:List D}(h:D.le x y)(Y:DsLe l r):DsLe (x::l) (y::r):=⟨h,Y⟩
theorem DsLe.get:∀{l r:List D},DsLe l r->l.length=r.length/\∀k,k<l.length->D.le (DK l k) (DK r k)
 |[],[],_=>⟨rfl,λk h=>absurd h ZbS⟩
 |[],_::_,h=>h.elim
 |_::_,[],h=>h.elim
 |x::l,y::r,⟨A,B⟩=>by
  obtain⟨L,S⟩:=DsLe.get B;refine⟨by simp[L],λk C=>?_⟩
  cases k with
  |zero=>exact A
  |succ k=>exact S k ZcY
theorem Ce {l r : List D} (h : DsLe l r) : D.le (AP l) (AP r) := fun s v ⟨E, A, B, L⟩ => ⟨E, A, by rw [B, h.get.1], fun k C => by
 rw[<-h.get.1]at C;obtain⟨u,S,n,F⟩:=L k C;exact⟨u,S,n,h.get.2 k C s u F⟩⟩
variable{x y:Operand}
theorem A33 (a b : Nat → Int) (w : World) : (do eqGuard .eql 36 x y (.agg (c8 a)) (.agg (c8 b)); binOp .eql 36 (.agg (c8 a)) (.agg (c8 b)) : Sem Value).run prog w = .ok (.bool (Om a b)) w := by
 have heq:(Op.equalIn Op.maxDepth 36 (.agg (c8 a)) (.agg (c8 b))).run prog w=.ok (Om a b) w:=ZX a b w;simp[eqGuard,binOp,Op.equal,heq]
section
variable {hp:List Ow} {arg:Operand->AV} {dd:Option Tmp} {ty:TypeId} {ps:String} {af:Array Edge} {gd:Option (Nat×Bool)}
variable{t:TypeId}
theorem A6j{a b:Nat->Int}(E:arg x=.d (AP (CM a)))(O:arg y=.d (AP (CM b))):Quiet prog hp ⟨dd,.binOp .eql 36 x y t,ty,ps,af,gd⟩ arg (.d (ex (.bool (Om a b)))):=
 IL rfl E O (λ_ _ h=>Dp h) (λ_ _ h=>Dp h) λw=>A33 a b w
end
structure RQ where
 b:Bool
 l:List Nat
 b':Bool
 l':List Nat
instance:Inhabited RQ:=⟨⟨false,[],false,[]⟩⟩
def Bv(n:Nat):List Nat:=if n<128 then[n]else(n%128+128)::Bv (n/128)
termination_by n
decreasing_by omega
def u64(z:Int):Nat:=(z%18446744073709551616).toNat
def RF(z:Int):Nat:=if z<0 then 2*(-(z+1)).toNat+1 else 2*z.toNat
def Bo(z:Int):List Nat:=Bv (RF z)
def Cw(w:Nat):List Nat:=[w/16777216%256,w/65536%256,w/256%256,w%256]
def Fw(b:Bool)(l:List Nat):List Nat:=Bv (2*l.length+(if b=true then 1 else 0))++l.flatMap Cw
def CC(q:RQ):List Nat:=Fw q.b q.l++Fw q.b' q.l'
def Jt{A:Type}(e:A->List Nat)(f:Nat->A):List Nat:=(List.range 8).flatMap λi=>e (f i)
def Es(t:RTm):List Nat:=(Fw t.b t.l++Fw t.b' t.l')++Jt (λz=>Bv (u64 z)) t.m
def Br{A:Type}(e:A->List Nat)(l:List A):List Nat:=Bv l.length++l.flatMap e
abbrev CB:List RTm->List Nat:=Br Es
abbrev Bf:List (List RTm)->List Nat:=Br CB
abbrev BJ:List (List (List RTm))->List Nat:=Br Bf
abbrev Gi:(Nat->Int)->List Nat:=Jt Bo
abbrev Cs:List (Nat->Int)->List Nat:=Br Gi
abbrev Ge:List RQ->List Nat:=Br CC
def GC(a:RQ×RQ):List Nat:=CC a.1++CC a.2
abbrev GQ:(Nat->RQ×RQ)->List Nat:=Jt GC
abbrev EQ:List (Nat->RQ×RQ)->List Nat:=Br GQ
abbrev Pz:(Nat->RQ)->List Nat:=Jt CC
def JD(s:RQ×List RTm):List Nat:=CC s.1++CB s.2
structure Cor where
 n:Int
 e:List (List RTm)
 f:List (List RTm)
structure Clm where
 kind:Int
 p:List RTm
 n:Int
 d:Int
 r:Int
 o:List (Nat->Int)
 l:List (List RTm)
 s:List Int
 b:List (Nat->RQ×RQ)
structure Rsl where
 l:Nat->Int
 q:List RQ
 r:Nat->List RQ
structure Crt where
 n:Int
 cof:List (List RTm)
 g:List (List RTm)
 o:List (Nat->Int)
 c:List (List (List RTm))
 q:List (List (List RTm))
 s:List (List (List RTm))
 r:Rsl
 a:List (RQ×RQ)
 sq:List (RQ×List RTm)
 x:List (Nat->RQ)
 b:List (Nat->RQ×RQ)
structure Fct where
 k:Cor
 c:Clm
 e:Crt
def FS(k:Cor):List Nat:=(Bo k.n++Bf k.e)++Bf k.f
def Ii(c:Clm):List Nat:=Bo c.kind++CB c.p++Bo c.n++Bo c.d++Bo c.r++Cs c.o++Bf c.l++Br Bo c.s++EQ c.b
def Js(r:Rsl):List Nat:=Gi r.l++Ge r.q++Jt Ge r.r
def JU(e:Crt):List Nat:=Bo e.n++Bf e.cof++Bf e.g++Cs e.o++BJ e.c++BJ e.q++BJ e.s++Js e.r++Br GC e.a++Br JD e.sq++Br Pz e.x++EQ e.b
def ED(f:Fct):List Nat:=FS f.k++Ii f.c++JU f.e
abbrev Rd(A:Type):=List Nat->Option (A×List Nat)
def Cq{A:Type}(a:A):Rd A:=λb=>some (a,b)
def Rd.bind{A c:Type}(p:Rd A)(f:A->Rd c):Rd c:=λb=>match p b with
 |none=>none
 |some (a,y)=>f a y
def Nt:Nat->Nat->Nat->Rd Nat
 |0,_,_=>λ_=>none
 |k+1,s,n=>λb=>match b with
  |[]=>none
  |c::y=>if 18446744073709551616<=(c%128)*s then none else if c<128 then some (n+(c%128)*s,y)else Nt k (s*128) (n+(c%128)*s) y
def OM:Rd Nat:=Nt 10 1 0
def RT{A:Type}(p:Rd A)(e:A->List Nat)(D:A->Prop):Prop:=∀x,D x->∀b,p (e x++b)=some (x,b)
theorem A1U:∀(k s n x:Nat),0<s->x*s<18446744073709551616->x<128^k->0<k->∀b,Nt k s n (Bv x++b)=some (n+x*s,b)
 |0,_,_,_,_,_,_,h,_=>absurd h (Ycf 0)
 |k+1,s,n,x,Y,E,C,_,b=>by
  rw[Bv];split
  .rename_i h
   rw[Ycy,YcH,Nt]
   dsimp only
   rw[YaS h,Yai ZbD,Yan h]
  .rename_i h
   rw[Ycy,Nt];have Z:(x%128+128)%128=x%128:=by omega
   have A:x%128*s<=x*s:=YaW (Nat.mod_le _ _) (Yah _)
   dsimp only
   rw[Z,Yai ZbD,Yai ZbD]
   have S:x/128<128^k:=by
    rw[YdI ZbD];rwa [Ybq]at C
   have c:0<k:=by
    rcases Yaz k with e | e
    .subst e
     rw[Nat.pow_zero]at S;omega
    .exact e
   have H:x/128*(s*128)=(x/128*128)*s:=by rw[YaM s 128,YaY]
   have K:x*s=x%128*s+x/128*128*s:=by
    exact Zir
   rw[A1U k (s*128) _ (x/128) ZbD (by rw[H];omega) S c b,H];congr 2;omega
theorem A7k:RT OM Bv λn=>n<18446744073709551616:=λx E b=>by
 have:=A1U 10 1 0 x ZbD ZbD (Yej E ZbH) ZbD b;rw[OM,this,YaH,YbB]
theorem Bl{A c:Type}{p:Rd A}{e:A->List Nat}{D:A->Prop}(h:RT p e D)(f:A->Rd c){x:A}(E:D x)(b:List Nat):p.bind f (e x++b)=f x b:=by
 rw[Rd.bind,h x E b]
def Co{A:Type}(p:Rd A):Nat->Rd (List A)
 |0=>Cq []
 |n+1=>p.bind λx=>(Co p n).bind λl=>Cq (x::l)
theorem Qq{A:Type}{p:Rd A}{e:A->List Nat}{D:A->Prop}(h:RT p e D):∀(l:List A),(∀x∈l,D x)->∀b,Co p l.length (l.flatMap e++b)=some (l,b)
 |[],_,b=>rfl
 |x::l,J,b=>by
  rw[Yav,Co,Ydd,Yaf,Bl h _ (J x Ybn),Rd.bind,Qq h l (λy O=>J y (Ybc _ O))];rfl
def Ju(c:List Nat->Bool):Rd Unit:=λb=>if c b=true then some ((),b)else none
theorem Dk{C:Type}{e:C->List Nat}:∀{l:List C},(∀x∈l,0<(e x).length)->l.length<=(l.flatMap e).length
 |[],_=>Yaw _
 |x::l,h=>by
  have A:=Dk (e:=e) (l:=l) λy O=>h y (Ybc _ O);have B:=h x Ybn;rw[Ydd,Yaa,Yav];omega
structure Lg where
 nat:Rd Nat
 ex:Nat->Bool
structure LgOk(G:Lg):Prop where
 nat:RT G.nat Bv λn=>n<9223372036854775808
 ex:∀n,n<=65535->G.ex n=true
section
variable (G:Lg)
def Ff{A:Type}(p:Rd A):Rd (List A):=G.nat.bind λn=>(Ju λb=>decide (n<=b.length)).bind λ_=>Co p n
def KB:Rd Nat:=λb=>match b with
 |x::A::B::q::y=>some (x*16777216+A*65536+B*256+q,y)
 |_=>none
def Qd:Rd (Bool×List Nat):=G.nat.bind λn=>(Ju λb=>decide (n/2<=b.length/4)).bind λ_=>(Co KB (n/2)).bind λl=>Cq (decide (n%2=1),l)
def GK:Rd RQ:=(Qd G).bind λa=>(Qd G).bind λc=>Cq ⟨a.1,a.2,c.1,c.2⟩
def KR{A:Type}[Inhabited A](p:Rd A):Rd (Nat->A):=(Co p 8).bind λl=>Cq λi=>l.getD i default
def Qf:Rd Int:=G.nat.bind λn b=>if G.ex n=true then some ((n:Int),b)else none
def IT:Rd RTm:=(GK G).bind λq=>(KR (Qf G)).bind λm=>Cq ⟨q.b,q.l,q.b',q.l',m⟩
def If:Rd Int:=G.nat.bind λn=>Cq (if n%2=0 then((n/2:Nat):Int)else -((n/2:Nat):Int)-1)
abbrev HD:Rd (List RTm):=Ff G (IT G)
abbrev EL:Rd (List (List RTm)):=Ff G (HD G)
abbrev MB:Rd (List (List (List RTm))):=Ff G (EL G)
abbrev Rp:Rd (Nat->Int):=KR (If G)
abbrev MF:Rd (List (Nat->Int)):=Ff G (Rp G)
abbrev QR:Rd (List RQ):=Ff G (GK G)
def Tk:Rd (RQ×RQ):=(GK G).bind λa=>(GK G).bind λb=>Cq (a,b)
abbrev VT:Rd (Nat->RQ×RQ):=KR (Tk G)
abbrev MO:Rd (List (Nat->RQ×RQ)):=Ff G (VT G)
abbrev ptP:Rd (Nat->RQ):=KR (GK G)
def ZP:Rd (RQ×List RTm):=(GK G).bind λa=>(HD G).bind λp=>Cq (a,p)
def VQ:Rd Cor:=(If G).bind λn=>(EL G).bind λe=>(EL G).bind λf=>Cq ⟨n,e,f⟩
def Mo:Rd Clm:=(If G).bind λkind=>(HD G).bind λp=>(If G).bind λn=>(If G).bind λd=>(If G).bind λr=>(MF G).bind λo=>(EL G).bind λl=>(Ff G (If G)).bind λs=>(MO G).bind λb=>Cq ⟨kind,p,n,d,r,o,l,s,b⟩
def Vc:Rd Rsl:=(Rp G).bind λl=>(QR G).bind λq=>(KR (QR G)).bind λr=>Cq ⟨l,q,r⟩
def Ko:Rd Crt:=(If G).bind λn=>(EL G).bind λH=>(EL G).bind λg=>(MF G).bind λo=>(MB G).bind λc=>(MB G).bind λq=>(MB G).bind λs=>(Vc G).bind λr=>(Ff G (Tk G)).bind λa=>(Ff G (ZP G)).bind λP=>(Ff G (ptP G)).bind λx=>(MO G).bind λb=>Cq ⟨n,H,g,o,c,q,s,r,a,P,x,b⟩
def OU:Rd Fct:=(VQ G).bind λk=>(Mo G).bind λc=>(Ko G).bind λe=>Cq ⟨k,c,e⟩
end
def SmW(l:List Nat):Prop:=(∀w∈l,w<4294967296)/\l.length<4611686018427387904
structure QB(q:RQ):Prop where
 n:SmW q.l
 d:SmW q.l'
def Oct{A:Type}[Inhabited A](D:A->Prop)(f:Nat->A):Prop:=(∀i,i<8->D (f i))/\∀i,8<=i->f i=default
structure TB(t:RTm):Prop where
 n:SmW t.l
 d:SmW t.l'
 m:Oct (λz=>0<=z/\z<=65535) t.m
def LB{A:Type}(D:A->Prop)(l:List A):Prop:=(∀x∈l,D x)/\l.length<9223372036854775808
abbrev PoB:List RTm->Prop:=LB TB
abbrev PsB:List (List RTm)->Prop:=LB PoB
abbrev TaB:List (List (List RTm))->Prop:=LB PsB
def IB(z:Int):Prop:=-2305843009213693952<=z/\z<=2305843009213693952
abbrev OrB:List (Nat->Int)->Prop:=LB (Oct IB)
abbrev UnB:List RQ->Prop:=LB QB
def VB(a:RQ×RQ):Prop:=QB a.1/\QB a.2
abbrev BoB:List (Nat->RQ×RQ)->Prop:=LB (Oct VB)
def AbE(s:RQ×List RTm):Prop:=QB s.1/\PoB s.2
structure CoB(k:Cor):Prop where
 n:IB k.n
 e:PsB k.e
 f:PsB k.f
structure ClB(c:Clm):Prop where
 kind:IB c.kind
 p:PoB c.p
 n:IB c.n
 d:IB c.d
 r:IB c.r
 o:OrB c.o
 l:PsB c.l
 s:LB IB c.s
 b:BoB c.b
structure RsB(r:Rsl):Prop where
 l:Oct IB r.l
 q:UnB r.q
 r:Oct UnB r.r
structure CrB(e:Crt):Prop where
 n:IB e.n
 cof:PsB e.cof
 g:PsB e.g
 o:OrB e.o
 c:TaB e.c
 q:TaB e.q
 s:TaB e.s
 r:RsB e.r
 a:LB VB e.a
 sq:LB AbE e.sq
 x:LB (Oct QB) e.x
 b:BoB e.b
structure FB(f:Fct):Prop where
 k:CoB f.k
 c:ClB f.c
 e:CrB f.e
theorem HE(n:Nat):0<(Bv n).length:=by
 rw[Bv];split<;>simp
section
variable {G:Lg} (hG:LgOk G)
include hG
theorem Hs{A:Type}{p:Rd A}{e:A->List Nat}{D:A->Prop}(h:RT p e D)(c:∀x,D x->0<(e x).length):RT (Ff G p) (Br e) (LB D):=λl ⟨J,f⟩ b=>by
 rw[Ff,Br,Yaf,Bl hG.nat _ f];have:=Dk (e:=e) (l:=l) λx E=>c x (J x E);rw[Rd.bind,Ju,Yan (Yak ZdL)];exact Qq h l J b
variable{l:List Nat}
theorem A5t(J:SmW l)(r:List Nat):Qd G (Fw p l++r)=some ((p,l),r):=by
 have d:RT KB Cw λw=>w<4294967296:=λw d p=>by
  show some (w/16777216%256*16777216+w/65536%256*65536+w/256%256*256+w%256,p)=some (w,p);congr 2;omega
 have A:(l.flatMap Cw).length=4*l.length:=by
  clear J
  induction l with
  |nil=>rfl
  |cons w l u=>rw[Ydd,Yaa,u,Yav];show 4+_=_;omega
 have B:2*l.length+(if p=true then 1 else 0)<9223372036854775808:=by
  have:=J.2;split<;>omega
 have L:(2*l.length+(if p=true then 1 else 0))/2=l.length:=by split<;>omega
 have S:decide ((2*l.length+(if p=true then 1 else 0))%2=1)=p:=by
  cases p
  .exact Yad ZbS
  .exact Yak ZcE
 rw[Qd,Fw,Yaf,Bl hG.nat _ B,L,S,Rd.bind,Ju,Yan (Yak (by rw[Yaa,A];omega))]
 dsimp only
 rw[Rd.bind,Qq d l J.1 r];rfl
theorem OA:RT (GK G) CC QB:=λq l b=>by
 rw[GK,CC,Yaf,Rd.bind,A5t hG l.n]
 dsimp only
 rw[Rd.bind,A5t hG l.d];rfl
omit hG in
theorem OI[Inhabited e]{p:Rd e}{A:e->List Nat}(h:RT p A uj):RT (KR p) (Jt A) (Oct uj):=λf ⟨t,c⟩ b=>by
 have B:Jt A f=((List.range 8).map f).flatMap A:=by rw[List.flatMap_map];rfl
 have C:=Qq h ((List.range 8).map f) (λx E=>by
  obtain⟨i,K,rfl⟩:=YaA.1 E;exact t i (YaZ.1 K)) b
 rw[Yar,Yev]at C;rw[KR,B,Rd.bind,C]
 dsimp only
 rw[Cq];congr 2;funext i;by_cases K:i<8
 .rw [Yab,Yax,Ydn K];rfl
 .rw [c i ZbD,Yab,YbF Zip];rfl
theorem A9N:RT (Qf G) (λz=>Bv (u64 z)) λz=>0<=z/\z<=65535:=λz ⟨c,A⟩ b=>by
 have S:((u64 z:Nat):Int)=z:=by
  unfold u64;omega
 rw[Qf,Bl hG.nat _ (show u64 z<9223372036854775808 by omega),Yan (hG.ex _ ZbD),S]
theorem A6W:RT (IT G) Es TB:=λt M b=>by
 rw[IT,Es,Yaf];have A:Fw t.b t.l++Fw t.b' t.l'=CC ⟨t.b,t.l,t.b',t.l'⟩:=rfl;rw[A,Bl (OA hG) _ (x:=⟨t.b,t.l,t.b',t.l'⟩) ⟨M.n,M.d⟩,Bl (OI (A9N hG)) _ M.m];rfl
theorem Kh:RT (If G) Bo IB:=λz ⟨c,A⟩ b=>by
 rw[If,Bo,Bl hG.nat _ (show RF z<9223372036854775808 by unfold RF;split<;>omega),Cq];congr 2;unfold RF;split<;>split<;>omega
end
variable{l f:List Nat}
theorem Je(h:0<l.length):0<(l++f).length:=by rw[Yaa];omega
theorem JN{A:Type}(e:A->List Nat)(l:List A):0<(Br e l).length:=Je (HE _)
theorem A21(b:Bool)(l:List Nat):0<(Fw b l).length:=Je (HE _)
theorem IY(q:RQ):0<(CC q).length:=Je (A21 _ _)
theorem QW(t:RTm):0<(Es t).length:=Je (Je (A21 _ _))
theorem LM(z:Int):0<(Bo z).length:=HE _
theorem Id{A:Type}{e:A->List Nat}(h:∀x,0<(e x).length)(f:Nat->A):0<(Jt e f).length:=by
 have Z:Jt e f=e (f 0)++((List.range' 1 7).flatMap λi=>e (f i)):=by rw[Jt,List.range_eq_range'];rfl
 rw[Z];exact Je (h _)
theorem OT(a:RQ×RQ):0<(GC a).length:=Je (IY _)
theorem ZO(s:RQ×List RTm):0<(JD s).length:=Je (IY _)
section
variable {G:Lg} (hG:LgOk G)
include hG
theorem Vn:RT (HD G) CB PoB:=Hs hG (A6W hG) λ_ _=>QW _
theorem JI:RT (EL G) Bf PsB:=Hs hG (Vn hG) λ_ _=>JN _ _
theorem Ra:RT (MB G) BJ TaB:=Hs hG (JI hG) λ_ _=>JN _ _
theorem Xy:RT (MF G) Cs OrB:=Hs hG (OI (Kh hG)) λ_ _=>Id LM _
theorem A4h:RT (QR G) Ge UnB:=Hs hG (OA hG) λ_ _=>IY _
theorem A8E:RT (Tk G) GC VB:=λa h b=>by
 rw[Tk,GC,Yaf,Bl (OA hG) _ h.1,Bl (OA hG) _ h.2];rfl
theorem YH:RT (MO G) EQ BoB:=Hs hG (OI (A8E hG)) λ_ _=>Id OT _
theorem Ab2:RT (ZP G) JD AbE:=λa h b=>by
 rw[ZP,JD,Yaf,Bl (OA hG) _ h.1,Bl (Vn hG) _ h.2];rfl
theorem A9Z:RT (VQ G) FS CoB:=λk h b=>by
 rw[VQ,FS,Yaf,Yaf,Bl (Kh hG) _ h.n,Bl (JI hG) _ h.e,Bl (JI hG) _ h.f];rfl
theorem Aa2:RT (Mo G) Ii ClB:=λc h b=>by
 rw[Mo,Ii];simp only[Yaf];rw[Bl (Kh hG) _ h.kind,Bl (Vn hG) _ h.p,Bl (Kh hG) _ h.n,Bl (Kh hG) _ h.d,Bl (Kh hG) _ h.r,Bl (Xy hG) _ h.o,Bl (JI hG) _ h.l,Bl (Hs hG (Kh hG) λ_ _=>LM _) _ h.s,Bl (YH hG) _ h.b];rfl
theorem A99:RT (Vc G) Js RsB:=λr h b=>by
 rw[Vc,Js,Yaf,Yaf,Bl (OI (Kh hG)) _ h.l,Bl (A4h hG) _ h.q,Bl (OI (A4h hG)) _ h.r];rfl
theorem A9W:RT (Ko G) JU CrB:=λe h b=>by
 rw[Ko,JU];simp only[Yaf];rw[Bl (Kh hG) _ h.n,Bl (JI hG) _ h.cof,Bl (JI hG) _ h.g,Bl (Xy hG) _ h.o,Bl (Ra hG) _ h.c,Bl (Ra hG) _ h.q,Bl (Ra hG) _ h.s,Bl (A99 hG) _ h.r,Bl (Hs hG (A8E hG) λ_ _=>OT _) _ h.a,Bl (Hs hG (Ab2 hG) λ_ _=>ZO _) _ h.sq,Bl (Hs hG (OI (OA hG)) λ_ _=>Id IY _) _ h.x,Bl (YH hG) _ h.b];rfl
theorem A5D:RT (OU G) ED FB:=λf h b=>by
 rw[OU,ED,Yaf,Yaf,Bl (A9Z hG) _ h.k,Bl (Aa2 hG) _ h.c,Bl (A9W hG) _ h.e];rfl
end
def pG:Lg:=⟨OM,λn=>decide (n<=65535)⟩
theorem A8A:LgOk pG:=⟨λx E b=>A7k x (Yej E ZbH) b,λn h=>Yak h⟩
def oct(r:Nat->D):List D:=[r 0,r 1,r 2,r 3,r 4,r 5,r 6,r 7]
def ZH{A:Type}(r:Nat->A)(k:Nat)(u:A):Nat->A:=λj=>if j=k then u else r j
theorem A1n{r:Nat->D}(h:n<8):CellAt (oct r) n (r n):=by
 refine⟨h,?_⟩
 match n,h with
 |0,_ |1,_ |2,_ |3,_ |4,_ |5,_ |6,_ |7,_=>rfl
section
variable {P:Program} {hp:List Ow} {arg:Operand->AV} {dd:Option Tmp} {ty:TypeId} {ps:String} {af:Array Edge} {gd:Option (Nat×Bool)} {T U:TypeId} {x y:Operand} {k:IntKind} {a b r:Int}
theorem DN(E:arg x=.d (ex (.int k a)))(O:arg y=.d (ex (.int k b)))(X:k.wrap (a+b)=r):Quiet P hp ⟨dd,.binOp .add T x y U,ty,ps,af,gd⟩ arg (.d (ex (.int k r))):=
 CN rfl E O λw=>by simp[eqGuard,binOp,Op.intArith,X]
theorem GU(E:arg x=.d (ex (.int k a)))(O:arg y=.d (ex (.int k b)))(X:k.wrap (a*b)=r):Quiet P hp ⟨dd,.binOp .mul T x y U,ty,ps,af,gd⟩ arg (.d (ex (.int k r))):=
 CN rfl E O λw=>by simp[eqGuard,binOp,Op.intArith,X]
theorem GT(E:arg x=.d (ex (.int k a)))(O:arg y=.d (ex (.int k b)))(F:b≠0)(X:k.wrap (a.tdiv b)=r):Quiet P hp ⟨dd,.binOp .quo T x y U,ty,ps,af,gd⟩ arg (.d (ex (.int k r))):=
 CN rfl E O λw=>by simp[eqGuard,binOp,Op.intDiv,F,X]
variable{o:IntKind}
theorem Mc(E:arg x=.d (ex (.int k a)))(O:arg y=.d (ex (.int o (n:Nat))))(f:Min.min n k.bits=n)(X:k.wrap (a*2^n)=r):Quiet P hp ⟨dd,.binOp .shl T x y U,ty,ps,af,gd⟩ arg (.d (ex (.int k r))):=
 CN rfl E O λw=>by
  have A:¬((n:Int)<0):=by omega
  simp[eqGuard,binOp,Op.shift,A,f,X]
theorem Ex(E:arg x=.d (ex (.int k a)))(O:arg y=.d (ex (.int o (n:Nat))))(f:Min.min n k.bits=n)(X:a.fdiv (2^n)=r):Quiet P hp ⟨dd,.binOp .shr T x y U,ty,ps,af,gd⟩ arg (.d (ex (.int k r))):=
 CN rfl E O λw=>by
  have A:¬((n:Int)<0):=by omega
  simp[eqGuard,binOp,Op.shift,A,f,X]
theorem Wy(E:arg x=.d (ex (.int k a)))(O:arg y=.d (ex (.int k b)))(X:k.wrap ((BitVec.ofInt k.bits a ||| BitVec.ofInt k.bits b).toNat)=r):Quiet P hp ⟨dd,.binOp .or T x y U,ty,ps,af,gd⟩ arg (.d (ex (.int k r))):=
 CN rfl E O λw=>by
  simp only[eqGuard,binOp,Op.intBits,X];simp[X]
variable{z u:Value}
theorem AO{S C:TypeId}{d:TypeDesc}{n b g A:Nat}(E:arg x=.d (ex (.int k a)))(F:Tab P S d n b z)(B:Tab P C (.int o) g A u)(X:o.wrap a=r):Quiet P hp ⟨dd,.convert S C x,ty,ps,af,gd⟩ arg (.d (ex (.int o r))):=by
 subst X;exact SE rfl E F B
end
theorem ET{n:Int}(h:0<=n/\n<=18446744073709551615):IntKind.u64.wrap n=n:=IntWalk.u64_in n h
