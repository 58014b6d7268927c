/- Part 23. No condition. -/
import Derived.Test.YtcikkglcoeedlaaGreatDm18
import Derived.Test.YtcikkglcoeedlaaGreatDm19
import Derived.Test.YtcikkglcoeedlaaGreatDm20
import Derived.Test.YtcikkglcoeedlaaGreatDm22
set_option linter.all false
set_option maxRecDepth 100000
set_option maxHeartbeats 1000000
namespace Go.Proofs.YtcikkglcoeedlaaGreat
open _root_.Go.Proofs.Tryz
variable{vy xi:AV->List Ow->Prop}{vm:Exit->AS->Prop}{vd:FuncId}{s:GS}{vk ue:List (List D)}{vb:List (Nat×AV)}{R:List AV}{l g vo:List Nat}{H vA:List Ow}{e:Type}{vu:List e}{n b T:Nat}{x y:Operand}{vC:Operand->AV}{P:Program}{vE:Rd e}{uv:Type}{d:TypeDesc}{t:TypeId}{z u um:Value}{vR:e}
section
open Go.RowKit
def RowR(T l:Nat)(B:List (List D))(s:GS)(v:Value):Prop:=∃q:List Value,s.w.ownsRow 0 T l v B.length q/\T≠335/\0<l/\(∀b,DR v=some b->∀k,s.S b k↔k<B.length*l)/\∀k,k<B.length->(B.getD k []).length=l/\∀j,j<l->∃u,q[k*l+j]? = some u/\u.oneCell'=true/\(Dd (B.getD k []) j).rel s u
theorem RowR.lt{T sz:Nat}{v:Value}(h:RowR T sz vk s v){b:Nat}(E:DR v=some b):b<s.w.heap.size:=by
 obtain⟨j,⟨_,A⟩,_⟩:=h;rcases A with⟨W,_⟩ | ⟨g,cap,cur,W,e2,e3,e4⟩
 .rw [W]at E;cases E
 .rw [W]at E;cases E;exact Bv e3
theorem RowR.keep{T sz:Nat}{s s':GS}{v:Value}(h:RowR T sz vk s v)(G:GS.Chg s s')(E:∀b,DR v=some b->s'.w.heap[b]? = s.w.heap[b]? /\ ∀k,s'.S b k↔s.S b k):RowR T sz vk s' v:=by
 obtain⟨J,⟨q,A⟩,K,Q,C,F⟩:=h;refine⟨J,⟨q,?_⟩,K,Q,λb I k=>((E b I).2 k).trans (C b I k),λk B=>⟨(F k B).1,λj X=>?_⟩⟩
 .rcases A with A | ⟨g,cap,cur,e1,e2,e3,e4⟩
  .exact .inl A
  .exact Zky
 .obtain ⟨u,L,P,c⟩:=(F k B).2 j X
  exact⟨u,L,P,(Dd _ j).st c G⟩
def LX(v:Value)(T l:Nat)(B:List (List D)):OD:=⟨λs _=>RowR T l B s v,λ_ _ b=>DR v=some b,λh E=>RowR.lt h E,λh G E=>⟨RowR.keep h G E,λ_ h=>h⟩⟩
theorem RowR.rel{T l:Nat}{v:Value}(h:RowR T l vk s v):(slD T l vk).rel s v:=by
 refine DV (hp:=[.row T l vk]) (av:=.own 0) (ρ:=λ_=>v) (base:=0) (λi o q=>?_) ⟨YcV,rfl⟩ rfl
 match i,q with
 |0,q=>cases q;exact h
theorem AVle.rows{hp:List Ow}{m id T sz:Nat}{v:Value}{rows:List (List D)}(y:hp[id]? = some (.obj (LX v T sz rows))):AVle hp m (.d (ex v)) (.d (slD T sz rows)):=λb V s u n Q=>by
 have Q:u=v:=Q;rw[Q];exact RowR.rel (n id _ y)
theorem Fh{s0:An}{c:Code}(T l:Nat)(e:T≠335)(A:0<l)(q:Gp H (.obj (LX (.slice none 0 0) T l []))=some vA)(k:AWp P s0 n c vm ⟨vb,vA⟩):AWp P s0 n c vm ⟨vb,H⟩:=by
 rw[Fi q]at k;refine⟨λa w ⟨s,V,F,u⟩=>?_⟩;have:=u.new (GS.Le.refl s) (dst:=none) (v:=undef) (u:=undef) (r:=.d Cs) (ow:=.obj (LX (.slice none 0 0) T l [])) (λd C=>by cases C) trivial ⟨[],⟨by simp,.inl ⟨rfl,rfl⟩⟩,e,A,λb E=>(by cases E),λk B=>absurd B ZbR⟩ (λb E=>by cases E);exact k.run a w ⟨s,_,F,this⟩
theorem Gf{s0:An}{c:Code}(id T l:Nat)(B:List (List D))(y:H[id]? = some (.row T l B))(k:∀v,AWp P s0 n c vm ⟨vb.map λp=>(p.1,down id (ex v) p.2),(H.map (Ow.mapA (down id (ex v)))).set id (.obj (LX v T l B))⟩):AWp P s0 n c vm ⟨vb,H⟩:=by
 refine⟨λa w ⟨s,V,q,u⟩=>(k (V id)).run a w ⟨s,V,q,?_⟩⟩
 exact u.upd (s':=s) u.le u.ok (GS.Chg.refl s) (id:=id) (o':=.obj (LX (V id) T l B)) (ρ':=V) (f:=down id (ex (V id))) y (λb _ _=>⟨rfl,λ_=>Ydt⟩) (λ_ _=>rfl) (show RowR T l B s (V id)from u.hp id _ y) (λb E=>.inl E) λG v r=>ZaY
def NE(id:Nat):AV->AV
 |.d x=>.d x
 |.ptr i off=>bif Nat.beq i id then .d Cs else .ptr i off
 |.own i=>bif Nat.beq i id then .d Cs else .own i
 |.fn f J=>bif J.contains id then .d Cs else .fn f J
def AV.ni(id:Nat):AV->Bool
 |.d _=>true
 |.ptr i _=>!Nat.beq i id
 |.own i=>!Nat.beq i id
 |.fn _ J=>!J.contains id
theorem A01:∀{G:AV},G.ni n=true->NE n G=G
 |.d _,_=>rfl
 |.ptr i _,h=>ZaZ
 |.own i,h=>ZaZ
 |.fn _ J,h=>by
  have h:(!J.contains n)=true:=h;have h:J.contains n=false:=by simpa using h
  simp only[NE,h,cond_false]
theorem A2j{s0:An}{o:Oper}{a:Act}{W:Nat->Value}{t T T2 R bytes id m b:Nat}(xa:o.op=.call { callee:=.builtin .append,args:=#[x,y],argTypes:=#[t,t] })(hst:StI s0 n ⟨vb,H⟩ a s W)(hh:H[id]? = some (.obj (LX um T R vk)))(hF:vb.map (λp=>(p.1,NE id p.2))=vb)(hM:H.map (Ow.mapA (NE id))=H)(X:a.eval x=um)(O:(slD T2 R ue).rel s (a.eval y))(M:Tab P t (.slice T) m b u)(hT:Tab P T d R bytes z)(xm:z.cells.size=R)(xj:(vk.length+ue.length)*bytes<=140737488355328)(xl:vk.length+ue.length<=4611686018427387904) :
  RegG.OpStep P o a.eval s λK v=>∃xb,StI s0 n ⟨vb,H.set id (.row T R (vk++ue))⟩ a v xb/\AVr H.length xb v (.own id) K:=by
 have xq:RowR T R vk s um:=hst.hp id _ hh;obtain⟨xs,E,L,V,w,h6⟩:=xq;obtain⟨A,c,e2,h7,h8,h9⟩:=O;have xh:id<H.length:=Cu hh
 have xw:∀(v':Value) (v:GS) (xv:List Value),(execOp a.eval o).run P s.w=.ok (.value v') v.w->GS.LeX s0.mine s0.g v->v.Ok->GS.Chg s v->v.w.ownsRow 0 T R v' (vk.length+ue.length) xv->(∀b,DR v'=some b->∀k,v.S b k↔k<(vk.length+ue.length)*R) ->
   (∀b,b<s.w.heap.size->DR um≠some b->v.w.heap[b]? = s.w.heap[b]? /\ ∀k,v.S b k↔s.S b k)->(∀b,DR v'=some b->DR um=some b\/s.w.heap.size<=b) ->
   (∀k,k<(vk++ue).length->((vk++ue).getD k []).length=R/\∀j,j<R->∃K,xv[k*R+j]? = some K/\K.oneCell'=true/\(Dd ((vk++ue).getD k []) j).rel v K) ->
   RegG.OpStep P o a.eval s λK v=>∃xb,StI s0 n ⟨vb,H.set id (.row T R (vk++ue))⟩ a v xb/\AVr H.length xb v (.own id) K:=by
  intro v' v xv xe q1 q2 q3 q4 q5 q6 q7 q8;have I:(vk++ue).length=vk.length+ue.length:=Yac
  have xi:=hst.upd (s':=v) (o':=.row T R (vk++ue)) (ρ':=λi=>if i=id then v' else W i) (f:=NE id) q1 q2 q3 hh q6 (λj Y=>Yaj Y)
   ⟨xv, by simp only [Yao]; rw [I]; exact q4, L, V, fun b G k => by simp only [Yao] at G; rw [I]; exact q5 b G k, q8⟩ (fun b G => by replace G : DR (if id = id then v' else W id) = some b := G; rw [Yao rfl] at G; exact q7 b G) fun av K xf => by
    cases av with
    |d q=>exact q.st xf q3
    |ptr i off=>
     obtain⟨p1,bb,p2,p3⟩:=xf;show AVr H.length _ v (bif Nat.beq i id then .d Cs else .ptr i off) K
     cases G:Nat.beq i id with
     |true=>trivial
     |false=>
      have e:i≠id:=YaJ G;refine⟨p1,bb,?_,p3⟩;show(if i=id then v' else W i)=_;rw[Yaj e];exact p2
    |own j=>
     obtain⟨p1,p2⟩:=xf;show AVr H.length _ v (bif Nat.beq j id then .d Cs else .own j) K
     cases G:Nat.beq j id with
     |true=>trivial
     |false=>
      exact ZhZ
    |fn f xc=>
     obtain⟨p1,p2⟩:=xf;show AVr H.length _ v (bif xc.contains id then .d Cs else .fn f xc) K
     cases G:xc.contains id with
     |true=>trivial
     |false=>
      have r:id∉xc:=λh=>by rw[Ybv.2 h]at G;cases G
      exact⟨p1,by rw[p2,YaS λi J=>(Yaj λe=>r ZeN:(if i=id then v' else W i)=W i)]⟩
  have xn:StI s0 n ⟨vb,H.set id (.row T R (vk++ue))⟩ a v (λi=>if i=id then v' else W i):=by
   have:=xi;simp only[hF,hM]at this;exact this
  exact Jp xe v rfl ⟨_,xn,xh,(Yao rfl).symm⟩
 have xt:∀v' Q,(Builtin.append_ #[t,t] o.type #[um,a.eval y]).run P s.w=.ok v' Q->(execOp a.eval o).run P s.w=.ok (.value v') Q:=λv' Q Z=>by
  simp only[execOp,xa,resolve,invoke,builtin,Sem.run_bind,Sem.run_pure,Result.andThen_ok,Yco,Ybb,Ycb,X,Z]
 rcases YaB ue.length with l | l
 .obtain rfl:ue=[]:=YaE l
  obtain⟨i,J,U,xo,xp⟩:=hT.info
  have xx:∃B N C,um=.slice B N C/\N<=C:=by
   rcases E.2 with⟨w1,_⟩ | ⟨g,cap,cur,w1,_,_,w2,_⟩
   .exact ⟨none,0,0,w1,Yai _⟩
   .exact ⟨_,_,_,w1,w2⟩
  obtain⟨B,N,C,w1,w2⟩:=xx
  have Z:(Builtin.append_ #[t,t] o.type #[um,a.eval y]).run P s.w=.ok um s.w:=by
   rw[e2,w1]
   cases A with
   |none=>exact run_append_nothing s.w _ _ _ _ i M.und J _ _ _ w2 _ (Src.ofNil s.w M.und c)
   |some ad=>exact run_append_nothing s.w _ _ _ _ i M.und J _ _ _ w2 _ (Src.ofSlice s.w M.und _ _ _ [] ZbR ZbR ZbR)
  refine xw um s xs (xt _ _ Z) hst.le hst.ok (GS.Chg.refl s) (by simpa using E) (λb G k=>by simpa using w b G k) (λb G _=>⟨rfl,λ_=>Ydt⟩) (λb G=>.inl G) λk F=>?_;rw[YbD]at F ⊢;exact⟨(h6 k F).1,(h6 k F).2⟩
 .obtain ⟨g,p,e3,xd⟩:=h9 l
  subst e3;obtain⟨xg,n1,n2,n3,n4⟩:=NX xd;obtain⟨v',v,Z,q1,q2,q3,q4,q5,q6,q7⟩:=PI (P:=P) (ty:=o.type) hst.le hst.ok M.und hT xm L V E (λb G=>hst.own id _ b hh G) w g p ue.length c xg n1 l n2 n3 xj xl;refine xw v' v (xs++xg) (xt _ _ (by rw[e2];exact Z)) q1 q2 q3 q4 q5 q6 q7 λk F=>?_;rw[Yac]at F;rw[Ls];have xr:xs.length=vk.length*R:=E.1;split
  .rename_i S
   refine⟨(h6 k S).1,λj Y=>?_⟩;obtain⟨K,r1,xu,r3⟩:=(h6 k S).2 j Y;refine⟨K,?_,xu,(Dd _ j).st r3 q3⟩;rw[Yaw]
   .exact r1
   .rw [xr]
    have:(k+1)*R<=vk.length*R:=YaC R S;exact Zhm
  .rename_i xk
   refine⟨(xd (k-vk.length) ZbC).1,λj Y=>?_⟩;obtain⟨K,r1,xu,r3⟩:=n4 (k-vk.length) j ZbC Y;refine⟨K,?_,xu,(Dd _ j).st r3 q3⟩;have e3:k*R=vk.length*R+(k-vk.length)*R:=ZiK
   rw[Yak ZbC,xr,<-r1];exact Zhl
theorem DTurn.rows{s0:An}{hp:List Ow}{t T Z sz bytes id m b c:Nat}{z O v:Value}{rows J:List (List D)}{G:List (Nat×Nat)}{dd:Option Tmp}{ty:TypeId}{ps:String}{af:Array Edge}{gd:Option (Nat×Bool)}(S:hp[id]? = some (.obj (LX v T sz rows)))
  (C:DN ⟨vb,EY hp id (.obj (LX v T sz rows)) (.row T sz (rows++J)) false⟩ (R.map HR.av) G x=.d (ex v)) (M:DN ⟨vb,EY hp id (.obj (LX v T sz rows)) (.row T sz (rows++J)) false⟩ (R.map HR.av) G y=.d (slD Z sz J))
  (L:Tab P t (.slice T) m b O) (e:Tab P T d sz bytes z) (Y:z.cells.size=sz) (B:(R.zipIdx.all λp=>Nat.beq p.2 c||l.contains p.2||p.1.ni id)=true) (E:(vb.all λp=>p.2.ni id)=true) (N:hp.map (Ow.mapA (NE id))=hp) (W:(rows.length+J.length)*bytes<=140737488355328) (X:rows.length+J.length<=4611686018427387904) :
  DTurn P s0 n vb hp id (.obj (LX v T sz rows)) (.row T sz (rows++J)) R l c G ⟨dd,.call { callee:=.builtin .append,args:=#[x,y],argTypes:=#[t,t] },ty,ps,af,gd⟩ (.own id):=λF hF s V a u f=>by
 have k:EY hp id (.obj (LX v T sz rows)) (.row T sz (rows++J)) false=hp:=by
  unfold EY;apply YbX;intro i;rw[YbM];split
  .rename_i h
   subst h;rw[S]
   try rw[Yao (Cu S)]
   rfl
  .rfl
 have g:=f x Zdc;have j:=f y Zdc;rw[C]at g;rw[M]at j;rw[k]at u;refine A2j (P:=P) (o:=⟨dd,.call { callee:=.builtin .append,args:=#[x,y],argTypes:=#[t,t] },ty,ps,af,gd⟩) rfl u S ?_ N (exD g) j L e Y W X
 have:∀p∈F,NE id p.2=p.2:=λp I=>by
  rcases hF p I with⟨i,q,A,K⟩ | h
  .have:=Yah.1 B (p.2, i) (by rw [YbQ]; exact K)
   simp only[YaT]at this;rcases this with(Q | Q) | Q
   .exact absurd (Yan Q) q
   .exact absurd (Ybv.1 Q) A
   .exact A01 Q
  .exact A01 (Yah.1 E p h)
 conv=>rhs;rw[<-Yep F]
 exact YaS λp I=>by rw[this p I];rfl
def Wb(f:FuncId)(x:D)(e:List Nat):Prop:=∀b,b.length+e.length<=1000000000000->Con prog f [.own 0,.d x] [.row 5 1 (CA b)] [0] (λr P=>r=.own 0/\P=[.row 5 1 (CA (b++e))])
theorem Con.cutB(h:Con P vd R H l vy)(m:∀r C,vy r C->r.below H.length=true/\(∀(i:Nat) o,(C.take H.length)[i]? = some o->o.below H.length)/\xi r (C.take H.length)):Con P vd R H l xi:=
 ⟨h.1,λs V F q A K Q k=>(h.2 s V F q A K Q k).mono λe N ⟨v,b,j,G,r,C,M,c,Y,t⟩=>by
  obtain⟨B,E,O⟩:=m r C M;have I:(C.take H.length).length=H.length:=by rw[YaO];have:=t.len;omega
  refine⟨v,b,j,G,r,_,O,c,?_,t.take E⟩;rw[I]
  cases r with
  |d x=>exact Y
  |ptr i off=>exact ZkA
  |own i=>exact ZkA
  |fn vd L=>exact⟨λi J=>by have:=Yah.1 B i J;simpa[Ybq]using this,Y.2⟩⟩
theorem Wb.intro{f:FuncId}{x:D}{e:List Nat}(h:∀b,b.length+e.length<=1000000000000->Con prog f [.own 0,.d x] [.row 5 1 (CA b)] [0] (λr P=>r=.own 0/\P.take 1=[.row 5 1 (CA (b++e))])):Wb f x e:=λb E=>(h b E).cutB λr P ⟨q,A⟩=>by
 subst q;refine⟨rfl,λi o J=>?_,rfl,A⟩;have A:P.take 1=[.row 5 1 (CA (b++e))]:=A;change (P.take 1)[i]? = some o at J;rw[A]at J
 match i,J with
 |0,J=>cases J;trivial
theorem Dp{q:Func}{c:Code}{Y:Ow}(p:P.funcs[vd]? = some q)(E:q.body=some c)(a:∀R w,(callFunc vd R).run P w=.ok (.enter vd R) w)(g:Nat.ble R.length q.ntmps=true)
  (h:∀(y:An) (b:Value),AWp P y q.ntmps c (FinC P q [0] [b] vy) ⟨Jo 0 R,[Y,.pin []]⟩):Con P vd R [Y] [0] vy:=
 Tz p E a g λy J r=>by
  match J,r with
  |[b],_=>exact h y b
section
variable {P:Program} {hp:List Ow} {arg:Operand->AV} {dd:Option Tmp} {ty:TypeId} {ps:String} {af:Array Edge} {gd:Option (Nat×Bool)} {T U:TypeId} {x y:Operand} {k:IntKind} {a b r:Int}
theorem KS(C:arg x=.d (ex (.int k a)))(M:arg y=.d (ex (.int k b)))(E:b≠0)(Y:a.tmod b=r):Quiet P hp ⟨dd,.binOp .rem T x y U,ty,ps,af,gd⟩ arg (.d (ex (.int k r))):=
 CO rfl C M λw=>by simp[eqGuard,binOp,Op.intDiv,E,Y]
theorem Az{B:Array Field}{f n b h H id off r:Nat}{E:Field}(C:arg x=.ptr id off)(A:Tab P t (.struct B) n b z)(p:B[f]? = some E)(q:Tab P E.type d h H u)(g:Nat.beq h 0=false)(Y:off+E.offset=r):Quiet P hp ⟨dd,.fieldAddr t x f,ty,ps,af,gd⟩ arg (.ptr id r):=Y▸Iz C A p q g
end
theorem GZ(n:Nat)(g:n<18446744073709551616):Wb 118 (ex (.int .u64 (n:Nat))) (By n):=Wb.intro λb E=>by
 refine Dp func118 rfl (Ag func118 ZbG ZbG) rfl λy=>?_;rw[ntmps118];intro C;refine Go ?_;refine AC (λw e=>∃H A,w=A/\A<18446744073709551616/\H++By A=b++By n/\e=⟨[(0,.own 0),(1,.d (ex (.int .u64 (A:Nat))))],[.row 5 1 (CA H),.pin []]⟩) ?le ⟨b,n,rfl,g,rfl,rfl⟩ ?round
 case le=>exact Ac ZeM (by exact Yr<|HpLe.cons (Ak rfl)<|HpLe.nil)
 case round=>
  rintro A _ ⟨H,_,rfl,l,q,rfl⟩;have B:(H++By A).length=(b++By n).length:=by rw[q]
  rw[Yac,Yac]at B;have F:=HW A;by_cases h:128<=A
  .have W:By A=(A%128+128)::By (A/128):=by rw [By, Yaj ZbC]
   have o:By A=[A%128+128]++By (A/128):=W;rw[W,Yat]at B;have I:=Cg H;have r:=HW (A/128);refine Ah<|Y1<|Wm ?_;refine Wq Bc ?_;refine Y0<|Ct<|Ys<|AWp.block<|Y1<|Wm<|Wm ?_;refine Wq (KS (r:=((A%128:Nat):Int)) (ao rfl) (ao rfl) ZbH Zda) ?_;refine Wq (AO (r:=((A%128:Nat):Int)) (ao rfl) (Aa rfl) (Aa rfl) ZcC) ?_;refine Wq (Dn (r:=((A%128+128:Nat):Int)) (ao rfl) (ao rfl) ZcC) ?_;(refine De rfl rfl ?_;(refine Dc (Aa rfl) (Aa rfl) rfl rfl rfl rfl rfl ?_;(repeat ((first | refine⟨_,Ar (ao rfl),?_⟩ | refine⟨_,Po rfl,?_⟩);refine⟨_,rfl,?_⟩));refine⟨_,rfl,?_⟩));(refine EC (r2:=[[ex (.int .u8 ((A%128+128:Nat):Int))]]) (ao rfl) rfl rfl (Aa rfl) (Aa rfl) rfl rfl Zdq Zdq rfl ZbI rfl ?_);refine Wa<|Y0<|AWp.region<|Wm ?_;refine Wq (Hh (r:=((A/128:Nat):Int)) (ao rfl) (ao rfl) ZbH ZcL) ?_;refine Wa<|AWl.nil<|Bg ?_
   refine Ai (A/128) ZbC ⟨H++[A%128+128],A/128,rfl,by omega,by rw[Yaf,<-o];exact q,rfl⟩ ?_;exact Ac ZeM (by(refine HpLe.cons (OwLe.row (by rw[Jb];rfl)) ?_);exact HpLe.cons (Ak rfl)<|HpLe.nil)
  .have W:By A=[A]:=by rw [By, Yao ZbC]
   rw[W,Yat]at B;rw[W]at q;have I:=Cg H;refine Ah<|Y1<|Wm ?_;refine Wq AL ?_;refine Y0<|Cf<|Cc<|Bz<|BM<|BE<|Yn<|Y1<|Wm<|Wm ?_;refine Wq (AO (r:=((A:Nat):Int)) (ao rfl) (Aa rfl) (Aa rfl) ZcC) ?_;(refine De rfl rfl ?_;(refine Dc (Aa rfl) (Aa rfl) rfl rfl rfl rfl rfl ?_;(repeat ((first | refine⟨_,Ar (ao rfl),?_⟩ | refine⟨_,Po rfl,?_⟩);refine⟨_,rfl,?_⟩));refine⟨_,rfl,?_⟩));(refine EC (r2:=[[ex (.int .u8 ((A:Nat):Int))]]) (ao rfl) rfl rfl (Aa rfl) (Aa rfl) rfl rfl Zdq Zdq rfl ZbI rfl ?_);refine Wa<|Y0<|BR ?_
   first | refine Bt (RetsA.one rfl) rfl ?_ rfl | refine AW (RetsA.one rfl) rfl ?_ rfl
   exact⟨rfl,by rw[<-q,Jb];rfl⟩
theorem FT(z:Int)(n:IW z):Wb 52 (eI z) (Bs z):=Wb.intro λb E=>by
 obtain⟨q,A⟩:=n;by_cases h:0<=z
 .have e:Bs z=By (2*z.toNat):=by rw [Bs, So, Yaj ZbC]
  rw[e]at E ⊢;have G:=GZ (2*z.toNat) ZbC b E;refine Dp func52 rfl (Ag func52 ZbG ZbG) rfl λy=>?_;rw[ntmps52];intro B;refine Y1<|Wa<|Y0<|Ah<|Y1<|Wm ?_;refine Wq AL ?_;refine Y0<|Cf<|Ys<|Y1<|Wm<|Wm ?_;refine Wq (AO (r:=((z.toNat:Nat):Int)) (ao rfl) (Aa rfl) (Aa rfl) ZcI) ?_;refine Wq (Hj (r:=((2*z.toNat:Nat):Int)) (ao rfl) (ao rfl) ZcI) ?_
  exact Zba
 .have e:Bs z=By (2*(-(z+1)).toNat+1):=by rw [Bs, So, Yao ZbC]
  rw[e]at E ⊢;have G:=GZ (2*(-(z+1)).toNat+1) ZbC b E;refine Dp func52 rfl (Ag func52 ZbG ZbG) rfl λy=>?_;rw[ntmps52];intro B;refine Y1<|Wa<|Y0<|Ah<|Y1<|Wm ?_;refine Wq Bc ?_;refine Y0<|Ct<|Y1<|Wm<|Wm ?_;refine Wq Xe ?_;refine Wq A1o ?_;refine Wq (AO (r:=(((-(z+1)).toNat:Nat):Int)) (ao rfl) (Aa rfl) (Aa rfl) ZcI) ?_;refine Wq (Hj (r:=((2*(-(z+1)).toNat:Nat):Int)) (ao rfl) (ao rfl) ZcI) ?_;refine Wq (Dn (r:=((2*(-(z+1)).toNat+1:Nat):Int)) (ao rfl) (ao rfl) ZcI) ?_
  exact Zba
theorem Aae(g:n<2^T)(v:n+b*2^T<18446744073709551616):IntKind.u64.wrap ((BitVec.ofInt IntKind.u64.bits ((n:Nat):Int) ||| BitVec.ofInt IntKind.u64.bits ((b*2^T:Nat):Int)).toNat)=((n+b*2^T:Nat):Int):=by
 have W:(BitVec.ofInt IntKind.u64.bits ((n:Nat):Int))=BitVec.ofNat 64 n:=rfl;have o:(BitVec.ofInt IntKind.u64.bits ((b*2^T:Nat):Int))=BitVec.ofNat 64 (b*2^T):=rfl;rw[W,o];show IntKind.u64.wrap (((BitVec.ofNat 64 n ||| BitVec.ofNat 64 (b*2^T)).toNat:Nat):Int)=_;rw[Yeg,YcD,YcD,YaV ZbC,YaV ZbC];have h:=YcE g b;rw[YdU]at h;rw[Nat.or_comm,<-h,EW ZbC];omega
theorem A5n(h:n*2^b<18446744073709551616):IntKind.u64.wrap ((n:Nat)*2^b:Int)=((n*2^b:Nat):Int):=by
 have e:((n:Nat):Int)*2^b=((n*2^b:Nat):Int):=by push_cast;rfl
 rw[e,EW ZbC]
theorem A7T:IntKind.u64.wrap ((n:Nat)*2^b:Int)=((n*2^b%18446744073709551616:Nat):Int):=by
 have e:((n:Nat):Int)*2^b=((n*2^b:Nat):Int):=by push_cast;rfl
 rw[e,IntKind.wrap_u64];omega
theorem A5V(k s n:Nat):Ld k s n []=none:=by cases k<;>rfl
theorem DM:Rdr 260 (λn:Nat=>ex (.int .u64 (n:Nat))) Pp:=Rdr.intro λT l I=>by
 refine Bu func260 rfl (Ag func260 ZbG ZbG) rfl λK z=>?_;rw[ntmps260];refine Go ?_;refine AC (λw E=>∃i n N,i<=10/\w=10-i/\n<2^(7*i)/\Byt N/\Ld (10-i) (2^(7*i)) n N=Pp l/\E=⟨[(0,.ptr 0 0),(3,.d (ex (.int .u64 (n:Nat)))),(4,.d (eN (7*i)))],[.var 92 [.d (Eq T N)],.pin [(z,.own 0)]]⟩) ?le ⟨0,0,l,by omega,rfl,by decide,I,rfl,rfl⟩ ?round
 case le=>exact Ac Zcf ZeE
 case round=>
  rintro w _ ⟨i,n,N,J,rfl,g,X,b,rfl⟩;by_cases Z:i<10
  .obtain ⟨k, B⟩:∃k, 10-i=k+1:=⟨9-i, by omega⟩
   rw[B]at b;have W:=A2w T N X 1 ZbH;refine Go ?_;refine Bd [0] [] [] (W) (BX rfl) (λV=>(by repeat (first | exact AN (by rw[<-b,List.length_eq_zero_iff.1 (show N.length=0 by omega),A5V]) | apply AH | apply PanQ.block | apply PanQ.loop):PanQ _ _) _) rfl rfl ZbB Zbz ZbH Zbx ZbD trivial rfl ?_;rintro _ _ ⟨q,rfl,rfl⟩;refine Kr ?_
   obtain⟨c,L,rfl⟩:∃c L,N=c::L:=by
    cases N with
    |nil=>simp at q
    |cons c L=>exact⟨c,L,rfl⟩
   have G:=X.lt c Ybk;have Q:Byt L:=X.drop 1;rw[Ld]at b
   dsimp only at b
   obtain⟨m,v⟩:∃m,m=c%128:=⟨_,rfl⟩;rw[<-v]at b;have F:0<2^(7*i):=Yem ZbH;refine Wq A4i ?_;refine Wq AT ?_;refine Wq (AO (r:=((c:Nat):Int)) (ao rfl) (Aa rfl) (Aa rfl) (EW ZbC)) ?_;refine Wa<|Y0<|Y1<|Wm ?_;refine Wq (KS (r:=((m:Nat):Int)) (ao rfl) (ao rfl) ZbH Zda) ?_;refine Wa<|Y0<|Ah<|Y1<|Wm<|Wm ?_
   by_cases s:18446744073709551616<=m*2^(7*i)
   .rw [Yao s]at b
    obtain⟨x,C⟩:∃x,x=m*2^(7*i)%18446744073709551616:=⟨_,rfl⟩;obtain⟨y,M⟩:∃y,y=x/2^(7*i):=⟨_,rfl⟩
    have O:y≠m:=λe=>by
     have A:y*2^(7*i)<=x:=by rw[M];exact Nat.div_mul_le_self _ _
     rw[e]at A;omega
    refine Wq (MG (n:=7*i) (r:=((x:Nat):Int)) (ao rfl) (ao rfl) (Yby ZdZ) (by rw[A7T,C])) ?_;refine Wm ?_;refine Wq (Ez (n:=7*i) (r:=((y:Nat):Int)) (ao rfl) (ao rfl) (Yby ZdZ) (by rw[Fd rfl,M])) ?_;refine Zhj ?_;exact ZgZ
   .rw [Yaj s]at b
    obtain⟨x,C⟩:∃x,x=m*2^(7*i):=⟨_,rfl⟩;have M:x/2^(7*i)=m:=by rw[C,Nat.mul_div_cancel _ F]
    have f:m<128:=by omega
    have a:2^(7*(i+1))=2^(7*i)*128:=by rw[YaG,YcL]
    have d:x+2^(7*i)<=2^(7*(i+1)):=by
     rw[a,C];have:(m+1)*2^(7*i)<=128*2^(7*i):=YaX ZbC (Yai _);rw[YbG,YcF]at this;omega
    have h:n+x<18446744073709551616:=by
     rcases YaI i 9 with S | S
     .have:2^(7*(i+1))<=2^63:=Ybo ZbH ZbC
      omega
     .obtain rfl:i=9:=by omega
      omega
    rw[<-C]at b;refine Wq (MG (n:=7*i) (r:=((x:Nat):Int)) (ao rfl) (ao rfl) (Yby ZdZ) (by rw[C];exact A5n ZbC)) ?_;refine Wm ?_;refine Wq (Ez (n:=7*i) (r:=((m:Nat):Int)) (ao rfl) (ao rfl) (Yby ZdZ) (by rw[Fd rfl,M])) ?_;refine Go ?_;refine Wq (MG (n:=7*i) (r:=((x:Nat):Int)) (ao rfl) (ao rfl) (Yby ZdZ) (by rw[C];exact A5n ZbC)) ?_;refine Wq (Xo (r:=((n+x:Nat):Int)) (ao rfl) (ao rfl) (by rw[C];exact Aae g ZbC)) ?_;refine Go ?_;by_cases Y:c<128
    .rw [Yao Y]at b
     refine Go ?_;refine FinP.ret (RetsA.one rfl) rfl ?_ rfl;exact⟨_,_,b.symm,Q,rfl,rfl⟩
    .rw [Yaj Y]at b
     refine Go ?_;refine Ai (10-(i+1)) ZbC ⟨i+1,n+x,L,by omega,rfl,by omega,Q,by rw[<-b,a,show 10-(i+1)=k by omega],rfl⟩ ?_;exact Ac Zcf ZeE
  .obtain rfl:i=10:=by omega
   refine Zhj ?_;exact ZgZ
def G0:Lg:=⟨Pp,λn=>decide (n<=65535)⟩
theorem YC:∀(k j n:Nat) (l:List Nat) (x:Nat) (i:List Nat),j+7*k=70->n<2^j->Ld k (2^j) n l=some (x,i)->x<18446744073709551616
 |0,_,_,_,_,_,_,_,h=>by cases h
 |k+1,j,n,[],_,_,_,_,h=>by cases h
 |k+1,j,n,c::l,x,i,X,g,h=>by
  rw[Ld]at h
  dsimp only at h
  split at h
  .cases h
  .rename_i s
   have F:2^(64-j)*2^j=18446744073709551616:=by rw[<-YcL,show 64-j+j=64 by omega]
   have q:c%128<2^(64-j):=by
    rcases YaI (c%128) (2^(64-j))with h | h
    .exact h
    .have:=YaC (2^j) h
     omega
   have A:(c%128+1)*2^j<=2^(64-j)*2^j:=YaC _ q;rw[YbG,YcF,F]at A;split at h
   .cases h
    omega
   .rw [show 2^j*128=2^(j+7) by rw [YcL]] at h
    refine YC k (j+7) _ l x i ZbC ?_ h;have K:(c%128+1)*2^j<=128*2^j:=YaC _ ZbC;rw[YbG,YcF]at K;rw[YcL];omega
theorem Fu(h:Pp l=some (n,g)):n<18446744073709551616:=YC 10 0 0 l n g rfl ZbH h
theorem Rd.none{p:Rd e}{f:e->Rd uv}(h:p l=.none):p.bind f l=.none:=by rw[Rd.bind,h]
theorem Rd.some{p:Rd e}{f:e->Rd uv}{l l':List Nat}{a:e}(h:p l=.some (a,l')):p.bind f l=f a l':=by rw[Rd.bind,h]
theorem GM:Rdr 183 (λz:Int=>eI z) (Ii G0):=Rdr.intro λT l I=>by
 have G:=DM T l I;refine Bu func183 rfl (Ag func183 ZbG ZbG) rfl λy B=>?_;rw[ntmps183];refine ZfB ?_;rintro _ _ ⟨n,i,q,A,rfl,rfl⟩;refine Kr ?_;have g:=Fu q;have L:Ii G0 l=some (if n%2=0 then((n/2:Nat):Int)else -((n/2:Nat):Int)-1,i):=Rd.some q;by_cases h:n%2=0
 .rw [Yao h]at L
  refine Wa<|Y0<|Ah<|Y1<|Wm ?_;refine Wq (KS (r:=((n%2:Nat):Int)) (ao rfl) (ao rfl) ZbH Zda) ?_;refine Wq Bc ?_;refine Y0<|Ct<|Y1<|Wm ?_;refine Wq (Hh (r:=((n/2:Nat):Int)) (ao rfl) (ao rfl) ZbH ZcL) ?_;refine Wq (AO (r:=((n/2:Nat):Int)) (ao rfl) (Aa rfl) (Aa rfl) ZeH) ?_;refine Wa<|Y0<|BR<|Dv ?_
  exact Ziz
 .rw [Yaj h]at L
  refine Wa<|Y0<|Ah<|Y1<|Wm ?_;refine Wq (KS (r:=((n%2:Nat):Int)) (ao rfl) (ao rfl) ZbH Zda) ?_;refine Wq AL ?_;refine Y0<|Cf<|Ys<|Y1<|Wm ?_;refine Wq (Hh (r:=((n/2:Nat):Int)) (ao rfl) (ao rfl) ZbH ZcL) ?_;refine Wq (AO (r:=((n/2:Nat):Int)) (ao rfl) (Aa rfl) (Aa rfl) ZeH) ?_;refine Wq A1o ?_;refine Wq A1m ?_;refine Wa<|Y0<|BR ?_
  exact Ziz
def Rdl{U:Type}(f G:FuncId)(d:List U->D)(p:Rd U):Prop:=∀(T:TypeId) l,Byt l->ConP prog f [.ptr 0 0,.fn (G+1000000) [0]] (rH T l) (λr P=>∃x i,Fb G0 p l=some (x,i)/\Byt i/\r=.d (d x)/\P=rH T i) rCh (Fb G0 p l=none)
theorem Rdl.intro{f G:FuncId}{d:List e->D}{p:Rd e}(h:∀(T:TypeId) l,Byt l->ConP prog f [.ptr 0 0,.fn (G+1000000) [0]] (rH T l) (λr P=>∃x i,Fb G0 p l=some (x,i)/\Byt i/\r=.d (d x)/\P.take 1=rH T i) rCh (Fb G0 p l=none)):Rdl f G d p:=λT l I=>(h T l I).cut λr P ⟨x,i,q,A,K,Q⟩=>by
 subst K;exact⟨rfl,Sd Q,x,i,q,A,rfl,Q⟩
theorem HL{p:Rd e}(h:Pp l=none):Fb G0 p l=none:=Rd.none h
theorem HK{p:Rd e}(h:Pp l=some (n,g)):Fb G0 p l=if n<=g.length then Co p n g else none:=by
 have h:G0.nat l=some (n,g):=h;unfold Fb;rw[Rd.some h];unfold Il Rd.bind;by_cases q:n<=g.length
 .simp [q]
 .simp [q]
theorem DY{p:Rd e}(B:b<n)(h:Co p n l=(Co p (n-b) g).map λy=>(vu++y.1,y.2))(C:p g=some (vR,vo)):Co p n l=(Co p (n-(b+1)) vo).map λy=>((vu++[vR])++y.1,y.2):=by
 rw[h,show n-b=(n-(b+1))+1 by omega,Co,Rd.some C];unfold Rd.bind
 cases Co p (n-(b+1)) vo with
 |none=>rfl
 |some y=>simp[Cp]
theorem DZ{p:Rd e}(B:b<n)(h:Co p n l=(Co p (n-b) g).map λy=>(vu++y.1,y.2))(C:p g=none):Co p n l=none:=by
 rw[h,show n-b=(n-(b+1))+1 by omega,Co,Rd.none C];rfl
theorem Ac1(Z:Rdr 183 (λx:Int=>eI x) (Ii G0)):Rdl 187 183 (λL:List (Int)=>slD 3 1 (L.map (λz:Int=>[eI z]))) (Ii G0):=Rdl.intro λT l I=>by
 have G:=DM T l I;refine Bu func187 rfl (Ag func187 ZbG ZbG) rfl λA F=>?_;rw[ntmps187];refine Zfx ?_;rintro _ _ ⟨n,d,q,M,rfl,rfl⟩;refine Kr ?_;have g:=Fu q;have o:=M.len;have C:=HK (p:=(Ii G0)) q;by_cases E:n<=d.length
 .rw [Yao E]at C
  refine Wa<|Y0<|Ah<|Y1<|Wm<|Wm ?_;refine Wq (BZ (ao rfl)) ?_;refine Wq AB ?_;refine Wq Cm ?_;refine Wq (DD (ao rfl) (Aa rfl)) ?_;refine Wq (AO (r:=((d.length:Nat):Int)) (ao rfl) (Aa rfl) (Aa rfl) (EW ZbC)) ?_;refine Wq AL ?_;refine Y0<|Cf<|Ys<|Y1<|Wa<|Y0<|Ah<|Y1<|Wm<|Wm<|Y0<|AWp.block ?_
  refine EK 6 3 1 rfl ZbH ZbH rfl rfl ?_;refine AC (λw e=>∃k j a,k<=n/\w=n-k/\j.length=k/\Byt a/\(Co (Ii G0) n d=(Co (Ii G0) (n-k) a).map λy=>(j++y.1,y.2))/\e=⟨[(0,.ptr 0 0),(1,.fn (183+1000000) [0]),(6,.own 2),(18,.d (ex (.int .u64 (n:Nat)))),(19,.d (ex (.int .u64 (k:Nat))))],[.var 92 [.d (Eq T a)],.pin [(F,.own 0)],.row 3 1 (j.map (λz:Int=>[eI z]))]⟩) ?le ⟨0,[],d,Yay _,rfl,rfl,M,by cases Co (Ii G0) n d<;>rfl,rfl⟩ ?round
  case le=>exact ZkB
  case round=>
   rintro w _ ⟨k,j,a,B,rfl,W,J,Y,rfl⟩;by_cases O:k<n
   .have G:=Z T a J
    refine Zfy ?_;rintro _ _ ⟨x,U,K,N,rfl,rfl⟩;refine Kr ?_
    (refine De rfl rfl ?_;(refine Dc (Aa rfl) (Aa rfl) rfl rfl rfl rfl rfl ?_;(repeat ((first | refine⟨_,Ar (ao rfl),?_⟩ | refine⟨_,Po rfl,?_⟩);refine⟨_,rfl,?_⟩));refine⟨_,rfl,?_⟩));(refine EC (r2:=[(λz:Int=>[eI z]) x]) (ao rfl) rfl rfl (Aa rfl) (Aa rfl) rfl rfl ZiI ZiI rfl ZbI rfl ?_);refine Go ?_;refine ZfN ?_;refine Ai (n-(k+1)) ZbC ⟨k+1,j++[x],U,by omega,rfl,by simp[W],N,DY O Y K,rfl⟩ ?_;exact Ac ZbO ZcG
   .obtain rfl:k=n:=by omega
    rw[Ydv]at Y;refine Go ?_;refine FinP.ret (RetsA.d (Am (ResV.tmp rfl rfl) (D.le.refl _))) rfl ?_ rfl;exact⟨j,a,by rw[C,Y];simp[Co,Cp],J,rfl,rfl⟩
 .exact Zbb
theorem Ac0(Z:Rdr 270 (λx:RQ=>AP (Hv x)) (GQ G0)):Rdl 306 270 (λL:List (RQ)=>slD 111 4 (L.map Hv)) (GQ G0):=Rdl.intro λT l I=>by
 have G:=DM T l I;refine Bu func306 rfl (Ag func306 ZbG ZbG) rfl λA z=>?_;rw[ntmps306];refine Zfx ?_;rintro _ _ ⟨n,d,q,J,rfl,rfl⟩;refine Kr ?_;have g:=Fu q;have o:=J.len;have C:=HK (p:=(GQ G0)) q;by_cases E:n<=d.length
 .rw [Yao E]at C
  refine Wa<|Y0<|Ah<|Y1<|Wm<|Wm ?_;refine Wq (BZ (ao rfl)) ?_;refine Wq AB ?_;refine Wq Cm ?_;refine Wq (DD (ao rfl) (Aa rfl)) ?_;refine Wq (AO (r:=((d.length:Nat):Int)) (ao rfl) (Aa rfl) (Aa rfl) (EW ZbC)) ?_;refine Wq AL ?_;refine Y0<|Cf<|Ys<|Y1<|Wa<|Y0<|Ah<|Y1<|Wm<|Wm<|Y0<|AWp.block ?_
  refine EK 6 111 4 rfl ZbH ZbH rfl rfl ?_;refine AC (λw e=>∃k j a,k<=n/\w=n-k/\j.length=k/\Byt a/\(Co (GQ G0) n d=(Co (GQ G0) (n-k) a).map λy=>(j++y.1,y.2))/\e=⟨[(0,.ptr 0 0),(1,.fn (270+1000000) [0]),(6,.own 2),(18,.d (ex (.int .u64 (n:Nat)))),(19,.d (ex (.int .u64 (k:Nat))))],[.var 92 [.d (Eq T a)],.pin [(z,.own 0)],.row 111 4 (j.map Hv)]⟩) ?le ⟨0,[],d,Yay _,rfl,rfl,J,by cases Co (GQ G0) n d<;>rfl,rfl⟩ ?round
  case le=>exact ZkB
  case round=>
   rintro w _ ⟨k,j,a,B,rfl,W,F,Y,rfl⟩;by_cases O:k<n
   .have G:=Z T a F
    refine Zfy ?_;rintro _ _ ⟨x,U,K,M,rfl,rfl⟩;refine ZfV ?_;(refine EC (r2:=[Hv x]) (ao rfl) rfl rfl (Aa rfl) (Aa rfl) rfl rfl ZiI ZiI rfl ZbI rfl ?_);exact Zhk
   .exact Zbc
 .exact Zbb
theorem Aa5(Z:Rdr 263 (λx:RTm=>AP (rtC x)) (Jj G0)):Rdl 262 263 (λL:List (RTm)=>slD 114 12 (L.map rtC)) (Jj G0):=Rdl.intro λT l I=>by
 have G:=DM T l I;refine Bu func262 rfl (Ag func262 ZbG ZbG) rfl λA z=>?_;rw[ntmps262];refine Zfx ?_;rintro _ _ ⟨n,d,q,J,rfl,rfl⟩;refine Kr ?_;have g:=Fu q;have o:=J.len;have C:=HK (p:=(Jj G0)) q;by_cases E:n<=d.length
 .rw [Yao E]at C
  refine Wa<|Y0<|Ah<|Y1<|Wm<|Wm ?_;refine Wq (BZ (ao rfl)) ?_;refine Wq AB ?_;refine Wq Cm ?_;refine Wq (DD (ao rfl) (Aa rfl)) ?_;refine Wq (AO (r:=((d.length:Nat):Int)) (ao rfl) (Aa rfl) (Aa rfl) (EW ZbC)) ?_;refine Wq AL ?_;refine Y0<|Cf<|Ys<|Y1<|Wa<|Y0<|Ah<|Y1<|Wm<|Wm<|Y0<|AWp.block ?_
  refine EK 6 114 12 rfl ZbH ZbH rfl rfl ?_;refine AC (λw e=>∃k j a,k<=n/\w=n-k/\j.length=k/\Byt a/\(Co (Jj G0) n d=(Co (Jj G0) (n-k) a).map λy=>(j++y.1,y.2))/\e=⟨[(0,.ptr 0 0),(1,.fn (263+1000000) [0]),(6,.own 2),(18,.d (ex (.int .u64 (n:Nat)))),(19,.d (ex (.int .u64 (k:Nat))))],[.var 92 [.d (Eq T a)],.pin [(z,.own 0)],.row 114 12 (j.map rtC)]⟩) ?le ⟨0,[],d,Yay _,rfl,rfl,J,by cases Co (Jj G0) n d<;>rfl,rfl⟩ ?round
  case le=>exact ZkB
  case round=>
   rintro w _ ⟨k,j,a,B,rfl,W,F,Y,rfl⟩;by_cases O:k<n
   .have G:=Z T a F
    refine Zfy ?_;rintro _ _ ⟨x,U,K,M,rfl,rfl⟩;refine ZfV ?_;(refine EC (r2:=[rtC x]) (ao rfl) rfl rfl (Aa rfl) (Aa rfl) rfl rfl ZiI ZiI rfl ZbI rfl ?_);exact Zhk
   .exact Zbc
 .exact Zbb
theorem Aa6(Z:Rdr 185 (λx:List RTm=>Lh x) (Hs G0)):Rdl 261 185 (λL:List (List RTm)=>slD 28 1 (L.map (λp=>[Lh p]))) (Hs G0):=Rdl.intro λT l I=>by
 have G:=DM T l I;refine Bu func261 rfl (Ag func261 ZbG ZbG) rfl λA z=>?_;rw[ntmps261];refine Zfx ?_;rintro _ _ ⟨n,d,q,J,rfl,rfl⟩;refine Kr ?_;have g:=Fu q;have o:=J.len;have C:=HK (p:=(Hs G0)) q;by_cases E:n<=d.length
 .rw [Yao E]at C
  refine Wa<|Y0<|Ah<|Y1<|Wm<|Wm ?_;refine Wq (BZ (ao rfl)) ?_;refine Wq AB ?_;refine Wq Cm ?_;refine Wq (DD (ao rfl) (Aa rfl)) ?_;refine Wq (AO (r:=((d.length:Nat):Int)) (ao rfl) (Aa rfl) (Aa rfl) (EW ZbC)) ?_;refine Wq AL ?_;refine Y0<|Cf<|Ys<|Y1<|Wa<|Y0<|Ah<|Y1<|Wm<|Wm<|Y0<|AWp.block ?_
  refine EK 6 28 1 rfl ZbH ZbH rfl rfl ?_;refine AC (λw e=>∃k j a,k<=n/\w=n-k/\j.length=k/\Byt a/\(Co (Hs G0) n d=(Co (Hs G0) (n-k) a).map λy=>(j++y.1,y.2))/\e=⟨[(0,.ptr 0 0),(1,.fn (185+1000000) [0]),(6,.own 2),(18,.d (ex (.int .u64 (n:Nat)))),(19,.d (ex (.int .u64 (k:Nat))))],[.var 92 [.d (Eq T a)],.pin [(z,.own 0)],.row 28 1 (j.map (λp=>[Lh p]))]⟩) ?le ⟨0,[],d,Yay _,rfl,rfl,J,by cases Co (Hs G0) n d<;>rfl,rfl⟩ ?round
  case le=>exact ZkB
  case round=>
   rintro w _ ⟨k,j,a,B,rfl,W,F,Y,rfl⟩;by_cases O:k<n
   .have G:=Z T a F
    refine Zfy ?_;rintro _ _ ⟨x,U,K,M,rfl,rfl⟩;refine Kr ?_
    (refine De rfl rfl ?_;(refine Dc (Aa rfl) (Aa rfl) rfl rfl rfl rfl rfl ?_;(repeat ((first | refine⟨_,Ar (ao rfl),?_⟩ | refine⟨_,Po rfl,?_⟩);refine⟨_,rfl,?_⟩));refine⟨_,rfl,?_⟩));(refine EC (r2:=[(λp=>[Lh p]) x]) (ao rfl) rfl rfl (Aa rfl) (Aa rfl) rfl rfl ZiI ZiI rfl ZbI rfl ?_);exact Zhk
   .exact Zbc
 .exact Zbb
theorem A7Y(Z:Rdr 184 (λx:List (List RTm)=>Iq x) (EE G0)):Rdl 268 184 (λL:List (List (List RTm))=>slD 24 1 (L.map (λp=>[Iq p]))) (EE G0):=Rdl.intro λT l I=>by
 have G:=DM T l I;refine Bu func268 rfl (Ag func268 ZbG ZbG) rfl λA z=>?_;rw[ntmps268];refine Zfx ?_;rintro _ _ ⟨n,d,q,J,rfl,rfl⟩;refine Kr ?_;have g:=Fu q;have o:=J.len;have C:=HK (p:=(EE G0)) q;by_cases E:n<=d.length
 .rw [Yao E]at C
  refine Wa<|Y0<|Ah<|Y1<|Wm<|Wm ?_;refine Wq (BZ (ao rfl)) ?_;refine Wq AB ?_;refine Wq Cm ?_;refine Wq (DD (ao rfl) (Aa rfl)) ?_;refine Wq (AO (r:=((d.length:Nat):Int)) (ao rfl) (Aa rfl) (Aa rfl) (EW ZbC)) ?_;refine Wq AL ?_;refine Y0<|Cf<|Ys<|Y1<|Wa<|Y0<|Ah<|Y1<|Wm<|Wm<|Y0<|AWp.block ?_
  refine EK 6 24 1 rfl ZbH ZbH rfl rfl ?_;refine AC (λw e=>∃k j a,k<=n/\w=n-k/\j.length=k/\Byt a/\(Co (EE G0) n d=(Co (EE G0) (n-k) a).map λy=>(j++y.1,y.2))/\e=⟨[(0,.ptr 0 0),(1,.fn (184+1000000) [0]),(6,.own 2),(18,.d (ex (.int .u64 (n:Nat)))),(19,.d (ex (.int .u64 (k:Nat))))],[.var 92 [.d (Eq T a)],.pin [(z,.own 0)],.row 24 1 (j.map (λp=>[Iq p]))]⟩) ?le ⟨0,[],d,Yay _,rfl,rfl,J,by cases Co (EE G0) n d<;>rfl,rfl⟩ ?round
  case le=>exact ZkB
  case round=>
   rintro w _ ⟨k,j,a,B,rfl,W,F,Y,rfl⟩;by_cases O:k<n
   .have G:=Z T a F
    refine Zfy ?_;rintro _ _ ⟨x,U,K,M,rfl,rfl⟩;refine Kr ?_
    (refine De rfl rfl ?_;(refine Dc (Aa rfl) (Aa rfl) rfl rfl rfl rfl rfl ?_;(repeat ((first | refine⟨_,Ar (ao rfl),?_⟩ | refine⟨_,Po rfl,?_⟩);refine⟨_,rfl,?_⟩));refine⟨_,rfl,?_⟩));(refine EC (r2:=[(λp=>[Iq p]) x]) (ao rfl) rfl rfl (Aa rfl) (Aa rfl) rfl rfl ZiI ZiI rfl ZbI rfl ?_);exact Zhk
   .exact Zbc
 .exact Zbb
theorem AbZ(Z:Rdr 265 (λx:Nat->Int=>AP (CN x)) (QN G0)):Rdl 264 265 (λL:List (Nat->Int)=>slD 36 8 (L.map CN)) (QN G0):=Rdl.intro λT l I=>by
 have G:=DM T l I;refine Bu func264 rfl (Ag func264 ZbG ZbG) rfl λA z=>?_;rw[ntmps264];refine Zfx ?_;rintro _ _ ⟨n,d,q,J,rfl,rfl⟩;refine Kr ?_;have g:=Fu q;have o:=J.len;have C:=HK (p:=(QN G0)) q;by_cases E:n<=d.length
 .rw [Yao E]at C
  refine Wa<|Y0<|Ah<|Y1<|Wm<|Wm ?_;refine Wq (BZ (ao rfl)) ?_;refine Wq AB ?_;refine Wq Cm ?_;refine Wq (DD (ao rfl) (Aa rfl)) ?_;refine Wq (AO (r:=((d.length:Nat):Int)) (ao rfl) (Aa rfl) (Aa rfl) (EW ZbC)) ?_;refine Wq AL ?_;refine Y0<|Cf<|Ys<|Y1<|Wa<|Y0<|Ah<|Y1<|Wm<|Wm<|Y0<|AWp.block ?_
  refine EK 6 36 8 rfl ZbH ZbH rfl rfl ?_;refine AC (λw e=>∃k j a,k<=n/\w=n-k/\j.length=k/\Byt a/\(Co (QN G0) n d=(Co (QN G0) (n-k) a).map λy=>(j++y.1,y.2))/\e=⟨[(0,.ptr 0 0),(1,.fn (265+1000000) [0]),(6,.own 2),(18,.d (ex (.int .u64 (n:Nat)))),(19,.d (ex (.int .u64 (k:Nat))))],[.var 92 [.d (Eq T a)],.pin [(z,.own 0)],.row 36 8 (j.map CN)]⟩) ?le ⟨0,[],d,Yay _,rfl,rfl,J,by cases Co (QN G0) n d<;>rfl,rfl⟩ ?round
  case le=>exact ZkB
  case round=>
   rintro w _ ⟨k,j,a,B,rfl,W,F,Y,rfl⟩;by_cases O:k<n
   .have G:=Z T a F
    refine Zfy ?_;rintro _ _ ⟨x,U,K,M,rfl,rfl⟩;refine ZfV ?_;(refine EC (r2:=[CN x]) (ao rfl) rfl rfl (Aa rfl) (Aa rfl) rfl rfl ZiI ZiI rfl ZbI rfl ?_);exact Zhk
   .exact Zbc
 .exact Zbb
theorem Ad1(Z:Rdr 192 (λx:RQ×RQ=>AP (Ju x)) (TK G0)):Rdl 191 192 (λL:List (RQ×RQ)=>slD 129 8 (L.map Ju)) (TK G0):=Rdl.intro λT l I=>by
 have G:=DM T l I;refine Bu func191 rfl (Ag func191 ZbG ZbG) rfl λA z=>?_;rw[ntmps191];refine Zfx ?_;rintro _ _ ⟨n,d,q,J,rfl,rfl⟩;refine Kr ?_;have g:=Fu q;have o:=J.len;have C:=HK (p:=(TK G0)) q;by_cases E:n<=d.length
 .rw [Yao E]at C
  refine Wa<|Y0<|Ah<|Y1<|Wm<|Wm ?_;refine Wq (BZ (ao rfl)) ?_;refine Wq AB ?_;refine Wq Cm ?_;refine Wq (DD (ao rfl) (Aa rfl)) ?_;refine Wq (AO (r:=((d.length:Nat):Int)) (ao rfl) (Aa rfl) (Aa rfl) (EW ZbC)) ?_;refine Wq AL ?_;refine Y0<|Cf<|Ys<|Y1<|Wa<|Y0<|Ah<|Y1<|Wm<|Wm<|Y0<|AWp.block ?_
  refine EK 6 129 8 rfl ZbH ZbH rfl rfl ?_;refine AC (λw e=>∃k j a,k<=n/\w=n-k/\j.length=k/\Byt a/\(Co (TK G0) n d=(Co (TK G0) (n-k) a).map λy=>(j++y.1,y.2))/\e=⟨[(0,.ptr 0 0),(1,.fn (192+1000000) [0]),(6,.own 2),(18,.d (ex (.int .u64 (n:Nat)))),(19,.d (ex (.int .u64 (k:Nat))))],[.var 92 [.d (Eq T a)],.pin [(z,.own 0)],.row 129 8 (j.map Ju)]⟩) ?le ⟨0,[],d,Yay _,rfl,rfl,J,by cases Co (TK G0) n d<;>rfl,rfl⟩ ?round
  case le=>exact ZkB
  case round=>
   rintro w _ ⟨k,j,a,B,rfl,W,F,Y,rfl⟩;by_cases O:k<n
   .have G:=Z T a F
    refine Zfy ?_;rintro _ _ ⟨x,U,K,M,rfl,rfl⟩;refine ZfV ?_;(refine EC (r2:=[Ju x]) (ao rfl) rfl rfl (Aa rfl) (Aa rfl) rfl rfl ZiI ZiI rfl ZbI rfl ?_);exact Zhk
   .exact Zbc
 .exact Zbb
theorem AcZ(Z:Rdr 194 (λx:RQ×List RTm=>AP (JF x)) (sqP G0)):Rdl 193 194 (λL:List (RQ×List RTm)=>slD 184 5 (L.map JF)) (sqP G0):=Rdl.intro λT l I=>by
 have G:=DM T l I;refine Bu func193 rfl (Ag func193 ZbG ZbG) rfl λA z=>?_;rw[ntmps193];refine Zfx ?_;rintro _ _ ⟨n,d,q,J,rfl,rfl⟩;refine Kr ?_;have g:=Fu q;have o:=J.len;have C:=HK (p:=(sqP G0)) q;by_cases E:n<=d.length
 .rw [Yao E]at C
  refine Wa<|Y0<|Ah<|Y1<|Wm<|Wm ?_;refine Wq (BZ (ao rfl)) ?_;refine Wq AB ?_;refine Wq Cm ?_;refine Wq (DD (ao rfl) (Aa rfl)) ?_;refine Wq (AO (r:=((d.length:Nat):Int)) (ao rfl) (Aa rfl) (Aa rfl) (EW ZbC)) ?_;refine Wq AL ?_;refine Y0<|Cf<|Ys<|Y1<|Wa<|Y0<|Ah<|Y1<|Wm<|Wm<|Y0<|AWp.block ?_
  refine EK 6 184 5 rfl ZbH ZbH rfl rfl ?_;refine AC (λw e=>∃k j a,k<=n/\w=n-k/\j.length=k/\Byt a/\(Co (sqP G0) n d=(Co (sqP G0) (n-k) a).map λy=>(j++y.1,y.2))/\e=⟨[(0,.ptr 0 0),(1,.fn (194+1000000) [0]),(6,.own 2),(18,.d (ex (.int .u64 (n:Nat)))),(19,.d (ex (.int .u64 (k:Nat))))],[.var 92 [.d (Eq T a)],.pin [(z,.own 0)],.row 184 5 (j.map JF)]⟩) ?le ⟨0,[],d,Yay _,rfl,rfl,J,by cases Co (sqP G0) n d<;>rfl,rfl⟩ ?round
  case le=>exact ZkB
  case round=>
   rintro w _ ⟨k,j,a,B,rfl,W,F,Y,rfl⟩;by_cases O:k<n
   .have G:=Z T a F
    refine Zfy ?_;rintro _ _ ⟨x,U,K,M,rfl,rfl⟩;refine ZfV ?_;(refine EC (r2:=[JF x]) (ao rfl) rfl rfl (Aa rfl) (Aa rfl) rfl rfl ZiI ZiI rfl ZbI rfl ?_);exact Zhk
   .exact Zbc
 .exact Zbb
theorem Ad0(Z:Rdr 196 (λx:Nat->RQ=>AP (MR x)) (ptP G0)):Rdl 195 196 (λL:List (Nat->RQ)=>slD 187 32 (L.map MR)) (ptP G0):=Rdl.intro λT l I=>by
 have G:=DM T l I;refine Bu func195 rfl (Ag func195 ZbG ZbG) rfl λA z=>?_;rw[ntmps195];refine Zfx ?_;rintro _ _ ⟨n,d,q,J,rfl,rfl⟩;refine Kr ?_;have g:=Fu q;have o:=J.len;have C:=HK (p:=(ptP G0)) q;by_cases E:n<=d.length
 .rw [Yao E]at C
  refine Wa<|Y0<|Ah<|Y1<|Wm<|Wm ?_;refine Wq (BZ (ao rfl)) ?_;refine Wq AB ?_;refine Wq Cm ?_;refine Wq (DD (ao rfl) (Aa rfl)) ?_;refine Wq (AO (r:=((d.length:Nat):Int)) (ao rfl) (Aa rfl) (Aa rfl) (EW ZbC)) ?_;refine Wq AL ?_;refine Y0<|Cf<|Ys<|Y1<|Wa<|Y0<|Ah<|Y1<|Wm<|Wm<|Y0<|AWp.block ?_
  refine EK 6 187 32 rfl ZbH ZbH rfl rfl ?_;refine AC (λw e=>∃k j a,k<=n/\w=n-k/\j.length=k/\Byt a/\(Co (ptP G0) n d=(Co (ptP G0) (n-k) a).map λy=>(j++y.1,y.2))/\e=⟨[(0,.ptr 0 0),(1,.fn (196+1000000) [0]),(6,.own 2),(18,.d (ex (.int .u64 (n:Nat)))),(19,.d (ex (.int .u64 (k:Nat))))],[.var 92 [.d (Eq T a)],.pin [(z,.own 0)],.row 187 32 (j.map MR)]⟩) ?le ⟨0,[],d,Yay _,rfl,rfl,J,by cases Co (ptP G0) n d<;>rfl,rfl⟩ ?round
  case le=>exact ZkB
  case round=>
   rintro w _ ⟨k,j,a,B,rfl,W,F,Y,rfl⟩;by_cases O:k<n
   .have G:=Z T a F
    refine Zfy ?_;rintro _ _ ⟨x,U,K,M,rfl,rfl⟩;refine ZfV ?_;(refine EC (r2:=[MR x]) (ao rfl) rfl rfl (Aa rfl) (Aa rfl) rfl rfl ZiI ZiI rfl ZbI rfl ?_);exact Zhk
   .exact Zbc
 .exact Zbb
theorem Ac2(Z:Rdr 267 (λx:Nat->RQ×RQ=>AP (DB x)) (WQ G0)):Rdl 266 267 (λL:List (Nat->RQ×RQ)=>slD 131 64 (L.map DB)) (WQ G0):=Rdl.intro λT l I=>by
 have G:=DM T l I;refine Bu func266 rfl (Ag func266 ZbG ZbG) rfl λA z=>?_;rw[ntmps266];refine Zfx ?_;rintro _ _ ⟨n,d,q,J,rfl,rfl⟩;refine Kr ?_;have g:=Fu q;have o:=J.len;have C:=HK (p:=(WQ G0)) q;by_cases E:n<=d.length
 .rw [Yao E]at C
  refine Wa<|Y0<|Ah<|Y1<|Wm<|Wm ?_;refine Wq (BZ (ao rfl)) ?_;refine Wq AB ?_;refine Wq Cm ?_;refine Wq (DD (ao rfl) (Aa rfl)) ?_;refine Wq (AO (r:=((d.length:Nat):Int)) (ao rfl) (Aa rfl) (Aa rfl) (EW ZbC)) ?_;refine Wq AL ?_;refine Y0<|Cf<|Ys<|Y1<|Wa<|Y0<|Ah<|Y1<|Wm<|Wm<|Y0<|AWp.block ?_
  refine EK 6 131 64 rfl ZbH ZbH rfl rfl ?_;refine AC (λw e=>∃k j a,k<=n/\w=n-k/\j.length=k/\Byt a/\(Co (WQ G0) n d=(Co (WQ G0) (n-k) a).map λy=>(j++y.1,y.2))/\e=⟨[(0,.ptr 0 0),(1,.fn (267+1000000) [0]),(6,.own 2),(18,.d (ex (.int .u64 (n:Nat)))),(19,.d (ex (.int .u64 (k:Nat))))],[.var 92 [.d (Eq T a)],.pin [(z,.own 0)],.row 131 64 (j.map DB)]⟩) ?le ⟨0,[],d,Yay _,rfl,rfl,J,by cases Co (WQ G0) n d<;>rfl,rfl⟩ ?round
  case le=>exact ZkB
  case round=>
   rintro w _ ⟨k,j,a,B,rfl,W,F,Y,rfl⟩;by_cases O:k<n
   .have G:=Z T a F
    refine Zfy ?_;rintro _ _ ⟨x,U,K,M,rfl,rfl⟩;refine ZfV ?_;(refine EC (r2:=[DB x]) (ao rfl) rfl rfl (Aa rfl) (Aa rfl) rfl rfl ZiI ZiI rfl ZbI rfl ?_);exact Zhk
   .exact Zbc
 .exact Zbb
def Suf{U:Type}(p:Rd U):Prop:=∀l x i,p l=some (x,i)->∃k,i=l.drop k
theorem Suf.byt(h:Suf vE)(F:vE l=some (vR,g))(I:Byt l):Byt g:=by
 obtain⟨k,rfl⟩:=h l vR g F;exact I.drop k
theorem Km:Suf (Cp vR):=λl x i h=>by cases h;exact⟨0,rfl⟩
theorem Suf.bind{p:Rd e}{f:e->Rd uv}(h:Suf p)(q:∀a,Suf (f a)):Suf (p.bind f):=λl x i C=>by
 unfold Rd.bind at C
 cases F:p l with
 |none=>rw[F]at C;cases C
 |some y=>
  obtain⟨a,d⟩:=y;rw[F]at C;obtain⟨k,rfl⟩:=h l a d F;obtain⟨j,rfl⟩:=q a _ x i C;exact⟨k+j,by rw[Ydp]⟩
theorem Suf.guard{c:List Nat->Bool}:Suf (Il c):=λl x i h=>by
 unfold Il at h;split at h
 .cases h;exact⟨0,rfl⟩
 .cases h
theorem Suf.rep{U:Type}{p:Rd U}(h:Suf p):∀n,Suf (Co p n)
 |0=>Km
 |n+1=>h.bind λ_=>(Suf.rep h n).bind λ_=>Km
theorem YB:∀(k s n:Nat),Suf (Ld k s n)
 |0,_,_,_,_,_,h=>by cases h
 |k+1,s,n,[],_,_,h=>by cases h
 |k+1,s,n,c::l,x,i,h=>by
  rw[Ld]at h
  dsimp only at h
  split at h
  .cases h
  .split at h
   .cases h;exact⟨1,rfl⟩
   .obtain ⟨j,rfl⟩:=YB k _ _ l x i h
    exact⟨j+1,by simp⟩
theorem Wu:Suf Pp:=YB 10 1 0
theorem A4W:Suf Jh:=λl x i h=>by
 unfold Jh at h;split at h
 .cases h;exact⟨4,rfl⟩
 .cases h
theorem YL(h:Suf vE):Suf (Fb G0 vE):=Suf.bind Wu λ_=>Suf.guard.bind λ_=>h.rep _
theorem WE:Suf (Px G0):=Suf.bind Wu λ_=>Suf.guard.bind λ_=>(A4W.rep _).bind λ_=>Km
theorem A2q:Suf (GQ G0):=WE.bind λ_=>WE.bind λ_=>Km
theorem Rdr.con{d:e->D}(h:Rdr vd d vE)(I:Byt l)(F:vE l=some (vR,g)):Con prog vd [.ptr 0 0] (rH t l) [] (λr P=>r=.d (d vR)/\P=rH t g):=
 ((h t l I).con (by rw [F]; exact fun h => by cases h)).mono fun r P ⟨N, a, q, _, K, Q⟩ => by
  rw[F]at q;cases q;exact⟨K,Q⟩
theorem Ao{o:Oper}{r:AV}(h:∃A,Quiet P H o vC A/\A=r):Quiet P H o vC r:=by
 obtain⟨A,q,rfl⟩:=h;exact q
theorem YQ(Z:Rdr 270 (λx:RQ=>AP (Hv x)) (GQ G0)):Rdr 192 (λx:RQ×RQ=>AP (Ju x)) (TK G0):=Rdr.intro λT l I=>by
 have G:=Z T l I;refine Bu func192 rfl (Ag func192 ZbG ZbG) rfl λB z=>?_;rw[ntmps192];refine ZfB ?_;rintro _ _ ⟨a,d,q,F,rfl,rfl⟩;refine ZfR ?_
 cases A:GQ G0 d with
 |none=>
  refine NB 0 (.var 92 [.d (Eq T d)]) 2 4 [3,2,1,0] [.d (AP (Hv a)),.ptr 0 0,.d (AP (Hv default)),.d (AP (Ju (a,default)))] [(3,.ptr 3 0),(0,.ptr 0 0)] ZbG rfl ⟨λ_=>rfl,(λC r=>by rw[Yax.1 r];rfl)⟩ ⟨rfl,rfl,trivial⟩ rfl rfl ZbG (by refine DSteps.q rfl ZbA ?_;refine DSteps.q rfl ZbA ?_;refine DSteps.k rfl (DCallP.mk (λ_=>rfl) (Z T d F)) ?_;refine DSteps.q rfl ZbA ?_;exact DSteps.nil) ZbG ZdN (λV=>(by repeat (first | exact AN (by unfold TK;rw[Rd.some q];exact Rd.none V) | apply AH | apply PanQ.block | apply PanQ.loop):PanQ _ _))
 |some y=>
  obtain⟨c,E⟩:=y;refine NC 0 (.var 92 [.d (Eq T d)]) (.var 92 [.d (Eq T E)]) 2 4 [3,2,1,0] [.d (AP (Hv a)),.ptr 0 0,.d (AP (Hv c)),.d (AP (Ju (a,c)))] [(3,.ptr 3 0),(0,.ptr 0 0),(2,.ptr 2 0)] [(9,.d (AP (Ju (a,c)))),(2,.ptr 2 0)] ZbG rfl ⟨λ_=>rfl,λ_=>rfl,(λC r=>by rw[Yax.1 r];rfl)⟩ ⟨rfl,rfl,rfl,trivial⟩ rfl rfl ZbG ZbG (by refine DSteps.q rfl ZbA ?_;refine DSteps.q rfl ZbA ?_;refine DSteps.k rfl (DCall.mk (λ_=>rfl) (Z.con F A)) ?_;refine DSteps.q rfl ZbA ?_;exact DSteps.nil) ZbG ⟨rfl,rfl,trivial⟩ [.var 92 [.d (Eq T E)],.pin [(z,.own 0)],.var 129 ([eB false,eS,eB false,eS,eB false,eS,eB false,eS].map .d),.var 111 ((Hv a).map .d)] rfl ?_;refine ZfA ?_;exact⟨(a,c),E,by unfold TK;rw[Rd.some q,Rd.some A];rfl,A2q.byt A F,rfl,rfl⟩
def inC(x:Bool×List Nat):List D:=[eB x.1,wD x.2]
theorem Yc(J:Rdr 307 (λx:Bool×List Nat=>AP (inC x)) (Px G0)):Rdr 270 (λx:RQ=>AP (Hv x)) (GQ G0):=Rdr.intro λT l I=>by
 have G:=J T l I;refine Bu func270 rfl (Ag func270 ZbG ZbG) rfl λB z=>?_;rw[ntmps270];refine ZfB ?_;rintro _ _ ⟨a,d,q,F,rfl,rfl⟩;refine ZfR ?_
 cases A:(Px G0) d with
 |none=>
  refine NB 0 (.var 92 [.d (Eq T d)]) 2 4 [3,2,1,0] [.d (AP (inC a)),.ptr 0 0,.d (AP (inC (false,[]))),.d (AP (Hv ⟨a.1,a.2,false,[]⟩))] [(3,.ptr 3 0),(0,.ptr 0 0)] ZbG rfl ⟨λ_=>rfl,(λC r=>by rw[Yax.1 r];rfl)⟩ ⟨rfl,rfl,trivial⟩ rfl rfl ZbG (by refine DSteps.q rfl ZbA ?_;refine DSteps.q rfl ZbA ?_;refine DSteps.k rfl (DCallP.mk (λ_=>rfl) (J T d F)) ?_;refine DSteps.q rfl ZbA ?_;exact DSteps.nil) ZbG ZdN (λV=>(by repeat (first | exact AN (by unfold GQ;rw[Rd.some q];exact Rd.none V) | apply AH | apply PanQ.block | apply PanQ.loop):PanQ _ _))
 |some y=>
  obtain⟨c,E⟩:=y;refine NC 0 (.var 92 [.d (Eq T d)]) (.var 92 [.d (Eq T E)]) 2 4 [3,2,1,0] [.d (AP (inC a)),.ptr 0 0,.d (AP (inC c)),.d (AP (Hv ⟨a.1,a.2,c.1,c.2⟩))] [(3,.ptr 3 0),(0,.ptr 0 0),(2,.ptr 2 0)] [(9,.d (AP (Hv ⟨a.1,a.2,c.1,c.2⟩))),(2,.ptr 2 0)] ZbG rfl ⟨λ_=>rfl,λ_=>rfl,(λC r=>by rw[Yax.1 r];rfl)⟩ ⟨rfl,rfl,rfl,trivial⟩ rfl rfl ZbG ZbG (by refine DSteps.q rfl ZbA ?_;refine DSteps.q rfl ZbA ?_;refine DSteps.k rfl (DCall.mk (λ_=>rfl) (J.con F A)) ?_;refine DSteps.q rfl ZbA ?_;exact DSteps.nil) ZbG ⟨rfl,rfl,trivial⟩ [.var 92 [.d (Eq T E)],.pin [(z,.own 0)],.var 111 ([eB false,eS,eB false,eS].map .d),.var 109 ((inC a).map .d)] rfl ?_;refine ZfA ?_;exact⟨_,E,by unfold GQ;rw[Rd.some q,Rd.some A];rfl,WE.byt A F,rfl,rfl⟩
theorem Yj:Suf (Hs G0):=YL (A2q.bind λ_=>Suf.bind (Suf.bind (Suf.rep (Suf.bind Wu λn l x i h=>by(split at h<;>cases h);exact⟨0,rfl⟩) 8) λ_=>Km) λ_=>Km)
theorem A3h(J:Rdr 270 (λx:RQ=>AP (Hv x)) (GQ G0))(R:Rdr 185 (λx:List RTm=>Lh x) (Hs G0)):Rdr 194 (λx:RQ×List RTm=>AP (JF x)) (sqP G0):=Rdr.intro λT l I=>by
 have G:=J T l I;refine Bu func194 rfl (Ag func194 ZbG ZbG) rfl λB z=>?_;rw[ntmps194];refine ZfB ?_;rintro _ _ ⟨a,d,q,F,rfl,rfl⟩;refine ZfR ?_
 cases A:(Hs G0) d with
 |none=>
  refine NB 0 (.var 92 [.d (Eq T d)]) 2 4 [3,2,1,0] [.d (AP (Hv a)),.ptr 0 0,.d (Lh ([]:List RTm)),.d (AP (JF (a,([]:List RTm))))] [(3,.ptr 3 0),(0,.ptr 0 0)] ZbG rfl ⟨λ_=>rfl,(λC r=>by rw[Yax.1 r];rfl)⟩ ⟨rfl,rfl,trivial⟩ rfl rfl ZbG (by refine DSteps.q rfl ZbA ?_;refine DSteps.q rfl ZbA ?_;refine DSteps.k rfl (DCallP.mk (λ_=>rfl) (R T d F)) ?_;refine DSteps.q rfl ZbA ?_;exact DSteps.nil) ZbG ZdN (λV=>(by repeat (first | exact AN (by unfold sqP;rw[Rd.some q];exact Rd.none V) | apply AH | apply PanQ.block | apply PanQ.loop):PanQ _ _))
 |some y=>
  obtain⟨c,E⟩:=y;refine NC 0 (.var 92 [.d (Eq T d)]) (.var 92 [.d (Eq T E)]) 2 4 [3,2,1,0] [.d (AP (Hv a)),.ptr 0 0,.d (Lh c),.d (AP (JF (a,c)))] [(3,.ptr 3 0),(0,.ptr 0 0),(2,.ptr 2 0)] [(9,.d (AP (JF (a,c)))),(2,.ptr 2 0)] ZbG rfl ⟨λ_=>rfl,λ_=>rfl,(λC r=>by rw[Yax.1 r];rfl)⟩ ⟨rfl,rfl,rfl,trivial⟩ rfl rfl ZbG ZbG (by refine DSteps.q rfl ZbA ?_;refine DSteps.q rfl ZbA ?_;refine DSteps.k rfl (DCall.mk (λ_=>rfl) (R.con F A)) ?_;refine DSteps.q rfl ZbA ?_;exact DSteps.nil) ZbG ⟨rfl,rfl,trivial⟩ [.var 92 [.d (Eq T E)],.pin [(z,.own 0)],.var 184 ([eB false,eS,eB false,eS,eS].map .d),.var 111 ((Hv a).map .d)] rfl ?_;refine ZfA ?_;exact⟨_,E,by unfold sqP;rw[Rd.some q,Rd.some A];rfl,Yj.byt A F,rfl,rfl⟩
theorem TO(Z:Rdr 270 (λx:RQ=>AP (Hv x)) (GQ G0)):Rdr 269 (λL:List (RQ)=>Hn L) (QK G0):=Rdr.intro λT l I=>by
 have G:=Ac0 Z T l I;refine Bu func269 rfl (Ag func269 ZbG ZbG) rfl λy z=>?_;rw[ntmps269];exact Zil
theorem A82(Z:Rdr 263 (λx:RTm=>AP (rtC x)) (Jj G0)):Rdr 185 (λL:List (RTm)=>Lh L) (Hs G0):=Rdr.intro λT l I=>by
 have G:=Aa5 Z T l I;refine Bu func185 rfl (Ag func185 ZbG ZbG) rfl λy z=>?_;rw[ntmps185];exact Zil
theorem A5F(Z:Rdr 185 (λx:List RTm=>Lh x) (Hs G0)):Rdr 184 (λL:List (List RTm)=>Iq L) (EE G0):=Rdr.intro λT l I=>by
 have G:=Aa6 Z T l I;refine Bu func184 rfl (Ag func184 ZbG ZbG) rfl λy z=>?_;rw[ntmps184];exact Zil
theorem A3e(Z:Rdr 184 (λx:List (List RTm)=>Iq x) (EE G0)):Rdr 189 (λL:List (List (List RTm))=>TI L) (Lm G0):=Rdr.intro λT l I=>by
 have G:=A7Y Z T l I;refine Bu func189 rfl (Ag func189 ZbG ZbG) rfl λy z=>?_;rw[ntmps189];exact Zil
theorem A5L(Z:Rdr 265 (λx:Nat->Int=>AP (CN x)) (QN G0)):Rdr 186 (λL:List (Nat->Int)=>Er L) (Lx G0):=Rdr.intro λT l I=>by
 have G:=AbZ Z T l I;refine Bu func186 rfl (Ag func186 ZbG ZbG) rfl λy z=>?_;rw[ntmps186];exact Zil
theorem A6E(Z:Rdr 267 (λx:Nat->RQ×RQ=>AP (DB x)) (WQ G0)):Rdr 188 (λL:List (Nat->RQ×RQ)=>Gl L) (LT G0):=Rdr.intro λT l I=>by
 have G:=Ac2 Z T l I;refine Bu func188 rfl (Ag func188 ZbG ZbG) rfl λy z=>?_;rw[ntmps188];exact Zil
theorem w32{n:Int}(h:0<=n/\n<=4294967295):IntKind.u32.wrap n=n:=by
 rw[IntKind.wrap_u32];omega
theorem Sl{n m j:Nat}(g:n<2^j)(v:m*2^j+n<4294967296):IntKind.u32.wrap ((BitVec.ofInt IntKind.u32.bits ((m*2^j:Nat):Int) ||| BitVec.ofInt IntKind.u32.bits ((n:Nat):Int)).toNat)=((m*2^j+n:Nat):Int):=by
 have W:(BitVec.ofInt IntKind.u32.bits ((n:Nat):Int))=BitVec.ofNat 32 n:=rfl;have o:(BitVec.ofInt IntKind.u32.bits ((m*2^j:Nat):Int))=BitVec.ofNat 32 (m*2^j):=rfl;rw[W,o];show IntKind.u32.wrap (((BitVec.ofNat 32 (m*2^j) ||| BitVec.ofNat 32 n).toNat:Nat):Int)=_;rw[Yeg,YcD,YcD,YaV ZbC,YaV ZbC];have h:=YcE g m;rw[YdU]at h;rw[<-h,w32 ZbC]
theorem Aav(h:Pp l=none):Px G0 l=none:=Rd.none h
theorem Aau(h:Pp l=some (n,g)):Px G0 l=if n/2<=g.length/4 then(Co Jh (n/2) g).map λy=>((decide (n%2=1),y.1),y.2)else none:=by
 have h:G0.nat l=some (n,g):=h;unfold Px;rw[Rd.some h];unfold Il Rd.bind;by_cases q:n/2<=g.length/4
 .simp only[q,decide_true,if_true]
  cases Co Jh (n/2) g<;>rfl
 .simp [q]
theorem A0U:Rdr 307 (λx:Bool×List Nat=>AP (inC x)) (Px G0):=Rdr.intro λT l I=>by
 have G:=DM T l I;refine Bu func307 rfl (Ag func307 ZbG ZbG) rfl λE z=>?_;rw[ntmps307];refine Go ?_;refine Bd [0] [] [] (G) (BX rfl) (λV=>(by repeat (first | exact AN (Aav V) | apply AH | apply PanQ.block | apply PanQ.loop):PanQ _ _) _) rfl rfl ZbB Zbz ZbH Zbx ZbD trivial rfl ?_;rintro _ _ ⟨n,d,q,S,rfl,rfl⟩;refine Kr ?_;have xk:=Fu q;have L:=Aau q;have o:=S.len;obtain⟨m,A⟩:∃m,m=n/2:=⟨_,rfl⟩;rw[<-A]at L;refine Wa<|Y0<|Ah<|Y1<|Wm ?_;refine Wq (Hh (r:=((m:Nat):Int)) (ao rfl) (ao rfl) ZbH ZcL) ?_;refine Wm ?_;refine Wq (BZ (ao rfl)) ?_;refine Wq AB ?_;refine Wq Cm ?_;refine Wq (DD (ao rfl) (Aa rfl)) ?_;refine Wq (AO (r:=((d.length:Nat):Int)) (ao rfl) (Aa rfl) (Aa rfl) (EW ZbC)) ?_;refine Wq (Hh (r:=((d.length/4:Nat):Int)) (ao rfl) (ao rfl) ZbH ZcL) ?_;refine Wq Ci ?_;apply Y0
 by_cases i:m<=d.length/4
 .rw [Yao i]at L
  refine Ig (ao rfl) (Yad ZbC) ?_;refine Ys<|Y1<|Wm ?_;refine Wq (KS (r:=((n%2:Nat):Int)) (ao rfl) (ao rfl) ZbH Zda) ?_;refine Wq Ci ?_;(refine De rfl rfl ?_;(refine AI (Aa rfl) rfl rfl rfl ?_;(repeat ((first | refine⟨_,Ar (ao rfl),?_⟩ | refine⟨_,Po rfl,?_⟩);refine⟨_,rfl,?_⟩));refine⟨_,rfl,?_⟩));refine Al ?_;refine Sf ?_;refine Y0<|Ah<|Y1<|Wm ?_;refine Wq (Hh (r:=((m:Nat):Int)) (ao rfl) (ao rfl) ZbH ZcL) ?_;refine Wm<|Y0<|AWp.block ?_
  refine A22 E.g.w.heap.size rfl ?_;refine AC (λC e=>∃k ws a v,k<=m/\C=m-k/\ws.length=k/\Byt a/\(Co Jh m d=(Co Jh (m-k) a).map λy=>(ws++y.1,y.2))/\4*(m-k)<=a.length/\e=⟨[(0,.ptr 0 0),(2,.ptr 2 0),(4,.ptr 3 0),(24,.d (ex (.int .u64 (m:Nat)))),(25,.d (ex (.int .u64 (k:Nat))))],[.var 92 [.d (Eq T a)],.pin [(z,.own 0)],.var 109 [.d (eB false),.d (eS)],.var 109 [.d (eB (((n%2:Nat):Int)==1)),.d (ex v)],.obj (WOV E.g.w.heap.size v ws)]⟩) ?le ⟨0,[],d,.slice none 0 0,by omega,rfl,rfl,S,by cases Co Jh (m-0) d<;>simp,by omega,rfl⟩ ?round
  case le=>exact ZkC
  case round=>
   rintro C _ ⟨k,ws,a,v,B,rfl,xl,M,xg,Q,rfl⟩;by_cases O:k<m
   .have t:=A2w T a M 4 ZbH
    refine Go ?_;refine Bd [0] [] [] (t) (BX rfl) (λV=>(by repeat (first | exact AN (absurd V ZbC) | apply AH | apply PanQ.block | apply PanQ.loop):PanQ _ _) _) rfl rfl ZbB Zbz ZbH Zbx ZbD trivial rfl ?_;rintro _ _ ⟨s,rfl,rfl⟩;refine Kr ?_
    obtain⟨W,K,N,h,U,rfl⟩:∃W K N h U,a=W::K::N::h::U:=by
     match a,s with
     |W::K::N::h::U,_=>exact⟨W,K,N,h,U,rfl⟩
    have b0:=M.lt W ZbR;have p:=M.lt K ZbR;have b:=M.lt N ZbR;have b3:=M.lt h ZbR;have r:Byt U:=M.drop 4;have xe:=M.len;have xj:ws.length<=1000000000:=by omega
    obtain⟨w,xf⟩:∃w,w=W*16777216+K*65536+N*256+h:=⟨_,rfl⟩;have c:w<4294967296:=by omega
    have u:=DY O xg (show Jh (W::K::N::h::U)=some (w,U)by rw[xf];rfl);obtain⟨Z,xd⟩:∃x,x=W*2^24:=⟨_,rfl⟩;obtain⟨H,R⟩:∃x,x=K*2^16:=⟨_,rfl⟩;obtain⟨x2,xa⟩:∃x,x=N*2^8:=⟨_,rfl⟩;obtain⟨J,xb⟩:∃x,x=Z+H:=⟨_,rfl⟩;obtain⟨g,xc⟩:∃x,x=J+x2:=⟨_,rfl⟩;have xi:IntKind.u32.wrap (((W:Nat):Int)*2^24)=((Z:Nat):Int):=by rw[w32 ZbC];omega
    have xh:IntKind.u32.wrap (((K:Nat):Int)*2^16)=((H:Nat):Int):=by rw[w32 ZbC];omega
    have q8:IntKind.u32.wrap (((N:Nat):Int)*2^8)=((x2:Nat):Int):=by rw[w32 ZbC];omega
    have f:=Sl (m:=W) (j:=24) (n:=H) ZbC ZbC;rw[<-xd,<-xb]at f;have P:=Sl (m:=W*2^8+K) (j:=16) (n:=x2) ZbC ZbC;rw[show(W*2^8+K)*2^16=J by omega,<-xc]at P;have o3:=Sl (m:=W*2^16+K*2^8+N) (j:=8) (n:=h) ZbC ZbC;rw[show(W*2^16+K*2^8+N)*2^8=g by omega,show g+h=w by omega]at o3;refine Go ?_;refine FP 4 (.obj (WOV E.g.w.heap.size v ws)) (.obj (WOD E.g.w.heap.size (ws++[w]))) 25 27 [26,25,24,23,22,21,20,19,18,17,16,15,14,13,12,11,10,9,8,7,6,5,4,3,2,1,0] [24] [.ptr 3 1,.d (ex v),.d (Eq T [W,K,N,h]),.d (Fk T [ex (.int .u8 ((W:Nat):Int))]),.d (ex (.int .u8 ((W:Nat):Int))),.d (ex (.int .u32 ((W:Nat):Int))),.d (ex (.int .u32 ((Z:Nat):Int))),.d (Eq T [W,K,N,h]),.d (Fk T [ex (.int .u8 ((K:Nat):Int))]),.d (ex (.int .u8 ((K:Nat):Int))),.d (ex (.int .u32 ((K:Nat):Int))),.d (ex (.int .u32 ((H:Nat):Int))),.d (ex (.int .u32 ((J:Nat):Int))),.d (Eq T [W,K,N,h]),.d (Fk T [ex (.int .u8 ((N:Nat):Int))]),.d (ex (.int .u8 ((N:Nat):Int))),.d (ex (.int .u32 ((N:Nat):Int))),.d (ex (.int .u32 ((x2:Nat):Int))),.d (ex (.int .u32 ((g:Nat):Int))),.d (Eq T [W,K,N,h]),.d (Fk T [ex (.int .u8 ((h:Nat):Int))]),.d (ex (.int .u8 ((h:Nat):Int))),.d (ex (.int .u32 ((h:Nat):Int))),.d (ex (.int .u32 ((w:Nat):Int))),.d (slD 335 1 [[ex (.int .u32 ((w:Nat):Int))]]),.own 4,.ptr 3 1] [(0,.ptr 0 0),(2,.ptr 2 0),(4,.ptr 3 0),(24,.d (ex (.int .u64 (m:Nat)))),(25,.d (ex (.int .u64 (k:Nat)))),(5,.d (Eq T [W,K,N,h]))] [(54,.own 4),(55,.ptr 3 1),(0,.ptr 0 0),(2,.ptr 2 0),(4,.ptr 3 0),(24,.d (ex (.int .u64 (m:Nat)))),(25,.d (ex (.int .u64 (k:Nat))))] ZbG rfl ⟨rfl,rfl,rfl,rfl,rfl,rfl,trivial⟩ rfl rfl ZbG ZbG ZbG (by refine DSteps.q rfl ZbA ?_;refine DSteps.q rfl (λ_=>Ko (ah rfl) rfl (Aa rfl) rfl rfl) ?_;refine DSteps.q rfl ZbA ?_;refine DSteps.q rfl (λ_=>HD rfl (ah rfl) (Aa rfl) (Aa rfl) rfl rfl ZbC) ?_;refine DSteps.q rfl (λ_=>Gv (ah rfl) (Aa rfl) rfl rfl) ?_;refine DSteps.q rfl (λ_=>AO (ah rfl) (Aa rfl) (Aa rfl) (w32 ZbC)) ?_;refine DSteps.q rfl (λ_=>MG (n:=24) (ah rfl) (ah rfl) rfl xi) ?_;refine DSteps.q rfl ZbA ?_;refine DSteps.q rfl (λ_=>HD rfl (ah rfl) (Aa rfl) (Aa rfl) rfl rfl ZbC) ?_;refine DSteps.q rfl (λ_=>Gv (ah rfl) (Aa rfl) rfl rfl) ?_;refine DSteps.q rfl (λ_=>AO (ah rfl) (Aa rfl) (Aa rfl) (w32 ZbC)) ?_;refine DSteps.q rfl (λ_=>MG (n:=16) (ah rfl) (ah rfl) rfl xh) ?_;refine DSteps.q rfl (λ_=>Xo (ah rfl) (ah rfl) f) ?_;refine DSteps.q rfl ZbA ?_;refine DSteps.q rfl (λ_=>HD rfl (ah rfl) (Aa rfl) (Aa rfl) rfl rfl ZbC) ?_;refine DSteps.q rfl (λ_=>Gv (ah rfl) (Aa rfl) rfl rfl) ?_;refine DSteps.q rfl (λ_=>AO (ah rfl) (Aa rfl) (Aa rfl) (w32 ZbC)) ?_;refine DSteps.q rfl (λ_=>MG (n:=8) (ah rfl) (ah rfl) rfl q8) ?_;refine DSteps.q rfl (λ_=>Xo (ah rfl) (ah rfl) P) ?_;refine DSteps.q rfl ZbA ?_;refine DSteps.q rfl (λ_=>HD rfl (ah rfl) (Aa rfl) (Aa rfl) rfl rfl ZbC) ?_;refine DSteps.q rfl (λ_=>Gv (ah rfl) (Aa rfl) rfl rfl) ?_;refine DSteps.q rfl (λ_=>AO (ah rfl) (Aa rfl) (Aa rfl) (w32 ZbC)) ?_;refine DSteps.q rfl (λ_=>Xo (ah rfl) (ah rfl) o3) ?_;refine DSteps.q rfl (λ_=>Ao Zdi) ?_;refine DSteps.k rfl (DTurn.words rfl rfl rfl (Aa rfl) (Aa rfl) rfl (by repeat (first | exact AllNw.nil | apply AllNw.x | apply AllNw.b | apply AllNw.e | (refine AllNw.p rfl ?_) | (refine AllNw.c rfl ?_) | (refine AllNw.l rfl ?_) | (refine AllNw.o rfl ?_))) (by repeat (first | exact AllNw.nil | apply AllNw.x | apply AllNw.b | (refine AllNw.p rfl ?_))) (by repeat (first | exact MemNw.nil | (refine A94 rfl ?_) | (refine A93 (by repeat (first | exact AllNw.nil | apply AllNw.x | apply AllNw.b)) ?_) | (refine MemNw.p (by repeat (first | exact AllNw.nil | (refine AllNw.o rfl ?_))) ?_))) rfl c ZbC ZbC) ?_;refine DSteps.q rfl ZbA ?_;exact DSteps.nil) ZbG ZbG ⟨rfl,rfl,rfl,rfl,rfl,rfl,rfl,trivial⟩ [.var 92 [.d (Eq T U)],.pin [(z,.own 0)],.var 109 [.d (eB false),.d (eS)],.var 109 [.d (eB (((n%2:Nat):Int)==1)),.d (ex v)],.obj (WOD E.g.w.heap.size (ws++[w]))] rfl ?_;refine Eo (ao rfl) (ao rfl) rfl (Aa rfl) (A91 rfl) rfl rfl ?_;refine AWl.nil<|Bg<|Yn ?_;refine A4I 4 E.g.w.heap.size (ws++[w]) rfl λF=>?_;apply AWp.region
    refine ZfN ?_;refine Ai (m-(k+1)) ZbC ⟨k+1,ws++[w],U,F,by omega,rfl,by rw[Yac];simp;omega,r,u,by simp at Q;omega,rfl⟩ ?_;exact ZkC
   .obtain rfl:k=m:=by omega
    have Y:Co Jh k d=some (ws,a):=by rw[xg,Ydv];simp[Co,Cp]
    rw[Y]at L;apply Y1;refine Wq AL ?_;refine Y0<|Ah<|Cf<|Cc<|Bz<|BM<|BE<|Yn<|Y1 ?_
    refine Bi (σ':=⟨[(2,.ptr 2 0),(4,.ptr 3 0)],[.var 92 [.d (Eq T a)],.pin [(z,.own 0)],.var 109 ([eB false,eS].map .d),.var 109 ([eB (((n%2:Nat):Int)==1),wD ws].map .d)]⟩) ?wk ?_
    case wk => exact Ac (by repeat (first | exact FrLe.nil | refine Yp ?_)) (by
     refine HpLe.cons (Ad rfl) ?_;refine HpLe.cons (Ak rfl) ?_;refine HpLe.cons (Ad rfl) ?_;refine HpLe.cons (OwLe.var rfl λj y X=>?_) HpLe.nil
     match j,X with
     |0,X=>cases X;exact⟨_,rfl,AVle.d rfl⟩
     |1,X=>cases X;exact⟨_,rfl,AVle.words (id:=4) rfl⟩)
    refine ZfA ?_;exact⟨((((n%2:Nat):Int)==1),ws),a,by rw[L];simp only[Ydd];congr 3;rw[YcW];simp;omega,M,rfl,rfl⟩
 .rw [Yaj i]at L
  refine Zhj ?_;refine Du (ao rfl) ?_;exact(by repeat (first | exact AN (L) | apply AH | apply PanQ.block | apply PanQ.loop):PanQ _ _) _
theorem Mx{x d:e}(h:vu.length=n):(λi=>(vu++[x]).getD i d)=λi=>if i=n then x else vu.getD i d:=by
 funext i;rw[Yaa,Yaa];split
 .rename_i q
  subst q;subst h;simp
 .rename_i q
  rcases YaI i n with A | A
  .rw [Yaw ZbC]
  .rw [YbI ZiI,YbI ZbC]
theorem Sn:Rdr 265 (λa:Nat->Int=>AP (CN a)) (QN G0):=Rdr.intro λT l I=>by
 refine Bu func265 rfl (Ag func265 ZbG ZbG) rfl λq z=>?_;rw[ntmps265];refine Go ?_;refine AC (λw e=>∃k j A,k<=8/\w=8-k/\j.length=k/\Byt A/\(Co (Ii G0) 8 l=(Co (Ii G0) (8-k) A).map λy=>(j++y.1,y.2))/\e=⟨[(0,.ptr 0 0),(2,.ptr 2 0),(4,.d (eN k))],[.var 92 [.d (Eq T A)],.pin [(z,.own 0)],.var 36 ((CN λi=>j.getD i default).map .d)]⟩) ?le ⟨0,[],l,Yay _,rfl,rfl,I,by cases Co (Ii G0) 8 l<;>rfl,rfl⟩ ?round
 case le=>exact Ac ZcT (by exact HpLe.cons (Ad rfl)<|HpLe.cons (Ak rfl)<|HpLe.cons (Ad rfl)<|HpLe.nil)
 case round=>
  rintro w _ ⟨k,j,A,B,rfl,W,E,Y,rfl⟩;by_cases O:k<8
  .have G:=GM T A E
   refine Go ?_;refine Bd [0] [] [] (G) (BX rfl) (λV=>(by repeat (first | exact AN (Rd.none (DZ O Y V)) | apply AH | apply PanQ.block | apply PanQ.loop):PanQ _ _) _) rfl rfl ZbB Zbz ZbH Zbx ZbD trivial rfl ?_;rintro _ _ ⟨x,U,K,C,rfl,rfl⟩;refine Kr ?_;refine Wq Ti ?_;refine Mj (ao rfl) (ao rfl) rfl (Aa rfl) (by first | exact CP rfl) (SetAt.mon O) rfl ?_;refine Go ?_;refine Ai (8-(k+1)) ZbC ⟨k+1,j++[x],U,by omega,rfl,by simp[W],C,DY O Y K,rfl⟩ ?_;exact Ac ZcT (by refine HpLe.cons (Ad rfl) ?_;refine HpLe.cons (Ak rfl) ?_;(refine HpLe.cons (OwLe.varD (by rw[Mx W];rfl)) ?_);exact HpLe.nil)
  .obtain rfl:k=8:=by omega
   refine ZfA ?_;exact⟨λi=>j.getD i default,A,by show Lc (Ii G0) l=_;unfold Lc;rw[Rd.some (a:=j) (l':=A) Zft];rfl,E,rfl,rfl⟩
theorem Bk:D.le (eS) (wD []):=λs v h=>⟨AM s v h,by intro x C;cases C⟩
def AllLe:List D->List D->Prop
 |a::l,b::r=>D.le a b/\AllLe l r
 |[],[]=>True
 |_,_=>False
theorem AllLe.get:∀{l r:List D},AllLe l r->l.length=r.length/\∀(k:Nat) y,r[k]? = some y->∃x,l[k]? = some x/\D.le x y
 |[],[],_=>⟨rfl,λk y h=>by cases h⟩
 |[],_::_,h=>h.elim
 |_::_,[],h=>h.elim
 |a::l,b::r,⟨q,A⟩=>by
  obtain⟨K,Q⟩:=AllLe.get A;refine⟨by simp[K],λk y h=>?_⟩
  cases k with
  |zero=>cases h;exact⟨a,rfl,q⟩
  |succ k=>exact Q k y Zdj
theorem HG{c l:List D}(h:AllLe c l):OwLe H n (.var b (c.map .d)) (.var b (l.map .d)):=by
 obtain⟨q,A⟩:=h.get;refine OwLe.var (by simp[q]) λk y M=>?_;rw[Yav]at M
 cases G:l[k]? with
 |none=>rw[G]at M;cases M
 |some z=>
  rw[G]at M;cases M;obtain⟨x,C,I⟩:=A k z G;exact⟨.d x,by rw[Yav,C];rfl,AVle.le I⟩
theorem Yw{c:e->List D}{x d:e}(h:vu.length=n):GY (upF (λi=>c (vu.getD i d)) n (c x))=GY λi=>c ((vu++[x]).getD i d):=by
 congr 1;funext i;rw[congrFun (Mx h) i];unfold upF;split<;>rfl
theorem HC{c:Nat->List D}{n i:Nat}{v:List D}(h:∀i,(c i).length=n)(r:v.length=n)(J:i<8):SetAt (GY c) (0+i*n) v (GY (upF c i v)):=by
 rw[YaH];exact A43 h r J
theorem Rz:AllLe [eB false,eS,eB false,eS,eB false,eS,eB false,eS,eB false,eS,eB false,eS,eB false,eS,eB false,eS,eB false,eS,eB false,eS,eB false,eS,eB false,eS,eB false,eS,eB false,eS,eB false,eS,eB false,eS] (GY λi=>Hv (([]:List (RQ)).getD i default)):=⟨D.le.refl _,⟨Bk,⟨D.le.refl _,⟨Bk,⟨D.le.refl _,⟨Bk,⟨D.le.refl _,⟨Bk,⟨D.le.refl _,⟨Bk,⟨D.le.refl _,⟨Bk,⟨D.le.refl _,⟨Bk,⟨D.le.refl _,⟨Bk,⟨D.le.refl _,⟨Bk,⟨D.le.refl _,⟨Bk,⟨D.le.refl _,⟨Bk,⟨D.le.refl _,⟨Bk,⟨D.le.refl _,⟨Bk,⟨D.le.refl _,⟨Bk,⟨D.le.refl _,⟨Bk,⟨D.le.refl _,⟨Bk,trivial⟩⟩⟩⟩⟩⟩⟩⟩⟩⟩⟩⟩⟩⟩⟩⟩⟩⟩⟩⟩⟩⟩⟩⟩⟩⟩⟩⟩⟩⟩⟩⟩
theorem A5I(Z:Rdr 270 (λx:RQ=>AP (Hv x)) (GQ G0)):Rdr 196 (λf:Nat->RQ=>AP (MR f)) (ptP G0):=Rdr.intro λT l I=>by
 refine Bu func196 rfl (Ag func196 ZbG ZbG) rfl λq z=>?_;rw[ntmps196];refine Go ?_;refine AC (λw e=>∃k j a,k<=8/\w=8-k/\j.length=k/\Byt a/\(Co (GQ G0) 8 l=(Co (GQ G0) (8-k) a).map λy=>(j++y.1,y.2))/\e=⟨[(0,.ptr 0 0),(2,.ptr 2 0),(4,.d (eN k))],[.var 92 [.d (Eq T a)],.pin [(z,.own 0)],.var 187 ((GY λi=>Hv (j.getD i default)).map .d)]⟩) ?le ⟨0,[],l,Yay _,rfl,rfl,I,by cases Co (GQ G0) 8 l<;>rfl,rfl⟩ ?round
 case le=>exact Ac ZcT (by exact HpLe.cons (Ad rfl)<|HpLe.cons (Ak rfl)<|HpLe.cons (HG Rz)<|HpLe.nil)
 case round=>
  rintro w _ ⟨k,j,a,B,rfl,W,E,Y,rfl⟩;by_cases O:k<8
  .exact Zbd
  .obtain rfl:k=8:=by omega
   refine ZfA ?_;exact⟨λi=>j.getD i default,a,by show Lc (GQ G0) l=_;unfold Lc;rw[Rd.some (a:=j) (l':=a) Zft];rfl,E,rfl,rfl⟩
theorem RA:AllLe [eB false,eS,eB false,eS,eB false,eS,eB false,eS,eB false,eS,eB false,eS,eB false,eS,eB false,eS,eB false,eS,eB false,eS,eB false,eS,eB false,eS,eB false,eS,eB false,eS,eB false,eS,eB false,eS,eB false,eS,eB false,eS,eB false,eS,eB false,eS,eB false,eS,eB false,eS,eB false,eS,eB false,eS,eB false,eS,eB false,eS,eB false,eS,eB false,eS,eB false,eS,eB false,eS,eB false,eS,eB false,eS] (GY λi=>Ju (([]:List (RQ×RQ)).getD i default)):=⟨D.le.refl _,⟨Bk,⟨D.le.refl _,⟨Bk,⟨D.le.refl _,⟨Bk,⟨D.le.refl _,⟨Bk,⟨D.le.refl _,⟨Bk,⟨D.le.refl _,⟨Bk,⟨D.le.refl _,⟨Bk,⟨D.le.refl _,⟨Bk,⟨D.le.refl _,⟨Bk,⟨D.le.refl _,⟨Bk,⟨D.le.refl _,⟨Bk,⟨D.le.refl _,⟨Bk,⟨D.le.refl _,⟨Bk,⟨D.le.refl _,⟨Bk,⟨D.le.refl _,⟨Bk,⟨D.le.refl _,⟨Bk,⟨D.le.refl _,⟨Bk,⟨D.le.refl _,⟨Bk,⟨D.le.refl _,⟨Bk,⟨D.le.refl _,⟨Bk,⟨D.le.refl _,⟨Bk,⟨D.le.refl _,⟨Bk,⟨D.le.refl _,⟨Bk,⟨D.le.refl _,⟨Bk,⟨D.le.refl _,⟨Bk,⟨D.le.refl _,⟨Bk,⟨D.le.refl _,⟨Bk,⟨D.le.refl _,⟨Bk,⟨D.le.refl _,⟨Bk,⟨D.le.refl _,⟨Bk,⟨D.le.refl _,⟨Bk,⟨D.le.refl _,⟨Bk,trivial⟩⟩⟩⟩⟩⟩⟩⟩⟩⟩⟩⟩⟩⟩⟩⟩⟩⟩⟩⟩⟩⟩⟩⟩⟩⟩⟩⟩⟩⟩⟩⟩⟩⟩⟩⟩⟩⟩⟩⟩⟩⟩⟩⟩⟩⟩⟩⟩⟩⟩⟩⟩⟩⟩⟩⟩⟩⟩⟩⟩⟩⟩⟩⟩
theorem Ab2(Z:Rdr 192 (λx:RQ×RQ=>AP (Ju x)) (TK G0)):Rdr 267 (λf:Nat->RQ×RQ=>AP (DB f)) (WQ G0):=Rdr.intro λT l I=>by
 refine Bu func267 rfl (Ag func267 ZbG ZbG) rfl λq z=>?_;rw[ntmps267];refine Go ?_;refine AC (λw e=>∃k j a,k<=8/\w=8-k/\j.length=k/\Byt a/\(Co (TK G0) 8 l=(Co (TK G0) (8-k) a).map λy=>(j++y.1,y.2))/\e=⟨[(0,.ptr 0 0),(2,.ptr 2 0),(4,.d (eN k))],[.var 92 [.d (Eq T a)],.pin [(z,.own 0)],.var 131 ((GY λi=>Ju (j.getD i default)).map .d)]⟩) ?le ⟨0,[],l,Yay _,rfl,rfl,I,by cases Co (TK G0) 8 l<;>rfl,rfl⟩ ?round
 case le=>exact Ac ZcT (by exact HpLe.cons (Ad rfl)<|HpLe.cons (Ak rfl)<|HpLe.cons (HG RA)<|HpLe.nil)
 case round=>
  rintro w _ ⟨k,j,a,B,rfl,W,E,Y,rfl⟩;by_cases O:k<8
  .exact Zbd
  .obtain rfl:k=8:=by omega
   refine ZfA ?_;exact⟨λi=>j.getD i default,a,by show Lc (TK G0) l=_;unfold Lc;rw[Rd.some (a:=j) (l':=a) Zft];rfl,E,rfl,rfl⟩
theorem SetAt.rt{t:RTm}{z:Int}(h:n<8):SetAt (rtC t) (0+4+n*1) [eI z] (rtC { t with m:=RW t.m n z }):=by
 rcases lt8 h with rfl | rfl | rfl | rfl | rfl | rfl | rfl | rfl<;>exact⟨YbE rfl,rfl⟩
theorem A7O(Z:Rdr 270 (λx:RQ=>AP (Hv x)) (GQ G0)):Rdr 263 (λt:RTm=>AP (rtC t)) (Jj G0):=Rdr.intro λT l I=>by
 have G:=Z T l I;refine Bu func263 rfl (Ag func263 ZbG ZbG) rfl λq z=>?_;rw[ntmps263];refine ZfB ?_;rintro _ _ ⟨a,M,c,h,rfl,rfl⟩;refine ZfR ?_;refine AC (λw e=>∃k j A,k<=8/\w=8-k/\j.length=k/\Byt A/\(Co (Pz G0) 8 M=(Co (Pz G0) (8-k) A).map λy=>(j++y.1,y.2))/\e=⟨[(0,.ptr 0 0),(2,.ptr 2 0),(3,.ptr 3 0),(9,.d (eN k))],[.var 92 [.d (Eq T A)],.pin [(z,.own 0)],.var 114 ([eB false,eS,eB false,eS,eI 0,eI 0,eI 0,eI 0,eI 0,eI 0,eI 0,eI 0].map .d),.var 114 ((rtC ⟨a.b,a.l,a.b',a.l',λi=>j.getD i default⟩).map .d)]⟩) ?le ⟨0,[],M,Yay _,rfl,rfl,h,by cases Co (Pz G0) 8 M<;>rfl,rfl⟩ ?round
 case le=>exact Ac Zdf (by exact HpLe.cons (Ad rfl)<|HpLe.cons (Ak rfl)<|HpLe.cons (Ad rfl)<|HpLe.cons (Ad rfl)<|HpLe.nil)
 case round=>
  rintro w _ ⟨k,j,A,B,rfl,W,J,Y,rfl⟩
  have F:∀{r},Co (Pz G0) 8 M=r->Jj G0 l=(match r with | none=>none | some (N,U)=>some (⟨a.b,a.l,a.b',a.l',λi=>N.getD i default⟩,U)):=λ{r} Y=>by
   unfold Jj;rw[Rd.some c];unfold Lc Rd.bind;rw[Y];cases r<;>rfl
  by_cases O:k<8
  .have G:=DM T A J
   refine Go ?_;refine Bd [0] [] [] (G) (BX rfl) (λV=>(by repeat (first | exact AN (F (DZ O Y (Rd.none V))) | apply AH | apply PanQ.block | apply PanQ.loop):PanQ _ _) _) rfl rfl ZbB Zbz ZbH Zbx ZbD trivial rfl ?_;rintro _ _ ⟨n,U,K,L,rfl,rfl⟩;refine Kr ?_;have g:=Fu K;by_cases E:65535<n
   .have C:Pz G0 A=none:=by
     unfold Pz;rw[Rd.some (p:=G0.nat) K];exact Yaj (by simp[G0];omega)
    refine Go ?_;refine Wq (EO (ao rfl) (Aa rfl)) ?_;refine Du (ao rfl) ?_;exact(by repeat (first | exact AN (F (DZ O Y C)) | apply AH | apply PanQ.block | apply PanQ.loop):PanQ _ _) _
   .have C:Pz G0 A=some ((n:Int),U):=by
     unfold Pz;rw[Rd.some (p:=G0.nat) K];exact Yao (by simp[G0];omega)
    refine Wa<|Y0<|Ah<|Y1<|Wm ?_;refine Wq AL ?_;refine Y0<|Cf<|Ys<|AWp.region<|Wm<|Wm ?_;refine Wq (AO (r:=((n:Nat):Int)) (ao rfl) (Aa rfl) (Aa rfl) ZeH) ?_;refine Wq AB ?_;refine Wq Ti ?_;refine Mj (ao rfl) (ao rfl) rfl (Aa rfl) (by first | exact CP rfl) (SetAt.rt O) rfl ?_;refine AWl.nil<|Bg<|Yn<|AWp.region ?_;refine Wq CL ?_;refine Wm<|AWl.nil ?_
    refine Ai (8-(k+1)) ZbC ⟨k+1,j++[(n:Int)],U,by omega,rfl,by simp[W],L,DY O Y C,rfl⟩ ?_;exact Ac Zdf Zdg
  .obtain rfl:k=8:=by omega
   refine ZfA ?_;exact⟨_,A,by rw[F Y];simp[Co,Cp],J,rfl,rfl⟩
theorem A8z(B:Rdr 184 (λL:List (List RTm)=>Iq L) (EE G0))(p:Suf (EE G0)):Rdr 96 (λk:Cor=>AP (Ef k)) (WN G0):=Rdr.intro λT l I=>by
 have G:=GM T l I;refine Bu func96 rfl (Ag func96 ZbG ZbG) rfl λy z=>?_;rw[ntmps96];refine ZfB ?_;rintro _ _ ⟨n,d,q,C,rfl,rfl⟩;refine Kr ?_;have M:=B T d C;refine Go ?_;refine Bd [0] [] [] (M) (BX rfl) (λV=>(by repeat (first | exact AN (by unfold WN;rw[Rd.some q];exact Rd.none V) | apply AH | apply PanQ.block | apply PanQ.loop):PanQ _ _) _) rfl rfl ZbB Zbz ZbH Zbx ZbD trivial rfl ?_;rintro _ _ ⟨e,a,A,E,rfl,rfl⟩;refine Kr ?_;have J:=B T a E;refine Go ?_;refine Bd [0] [] [] (J) (BX rfl) (λV=>(by repeat (first | exact AN (by unfold WN;rw[Rd.some q,Rd.some A];exact Rd.none V) | apply AH | apply PanQ.block | apply PanQ.loop):PanQ _ _) _) rfl rfl ZbB Zbz ZbH Zbx ZbD trivial rfl ?_;rintro _ _ ⟨f,U,K,F,rfl,rfl⟩;refine Kr ?_;refine ZfA ?_;exact⟨⟨n,e,f⟩,U,by unfold WN;rw[Rd.some q,Rd.some A,Rd.some K];rfl,F,rfl,rfl⟩
end
