/- Part 29 of the proof of claimAnswers_holds. No condition. -/
import Derived.Test.YtcikkglcoeedlaaGreatCa20
import Derived.Test.YtcikkglcoeedlaaGreatCa22
import Derived.Test.YtcikkglcoeedlaaGreatCa23
import Derived.Test.YtcikkglcoeedlaaGreatCa24
import Derived.Test.YtcikkglcoeedlaaGreatCa26
import Derived.Test.YtcikkglcoeedlaaGreatCa27
import Derived.Test.YtcikkglcoeedlaaGreatCa28
set_option linter.unusedSimpArgs false
set_option linter.unusedVariables false
set_option maxRecDepth 100000
set_option maxHeartbeats 4000000
namespace Go.Proofs.YtcikkglcoeedlaaGreat
open Go.RowKit
variable{vH:Array Edge}{vp:Code}{vm:Exit->AS->Prop}{s vq:GS}{o:IntKind}{vl uf:List (List D)}{vf:List (Nat×AV)}{u:List AV}{c:List D}{l:List Nat}{H vA:List Ow}{n b T m a k g vk ui:Nat}{x y:Operand}{vz:Operand->AV}{vT:Option (Nat×Bool)}{vC:Option Tmp}{P:Program}{vG:String}{d:TypeDesc}{t U:TypeId}{z v ue:Value}
def RowR(T A:Nat)(y:List (List D))(s:GS)(v:Value):Prop:=∃Z:List Value,s.w.ownsRow 0 T A v y.length Z/\T≠335/\0<A/\(∀b,Dg v=some b->∀k,s.S b k↔k<y.length*A)/\∀k,k<y.length->(y.getD k []).length=A/\∀j,j<A->∃u,Z[k*A+j]? = some u/\u.oneCell'=true/\(Dd (y.getD k []) j).rel s u
theorem RowR.lt{T sz:Nat}{v:Value}(h:RowR T sz vl s v){b:Nat}(F:Dg v=some b):b<s.w.heap.size:=by
 obtain⟨Z,⟨_,B⟩,_⟩:=h;rcases B with⟨c,_⟩ | ⟨g,cap,cur,c,e2,e3,e4⟩
 .rw [c]at F;cases F
 .rw [c]at F;cases F;exact Bm e3
theorem RowR.keep{T sz:Nat}{v:Value}(h:RowR T sz vl s v)(I:GS.Chg s vq)(F:∀b,Dg v=some b->vq.w.heap[b]? = s.w.heap[b]? /\ ∀k,vq.S b k↔s.S b k):RowR T sz vl vq v:=by
 obtain⟨Z,⟨A,B⟩,L,V,m,z⟩:=h;refine⟨Z,⟨A,?_⟩,L,V,λb d k=>((F b d).2 k).trans (m b d k),λk C=>⟨(z k C).1,λj e=>?_⟩⟩
 .rcases B with B | ⟨g,cap,cur,e1,e2,e3,e4⟩
  .exact .inl B
  .exact Zje
 .obtain ⟨u,E,U,G⟩:=(z k C).2 j e
  exact⟨u,E,U,(Dd _ j).st G I⟩
def Ri(v:Value)(T k:Nat)(y:List (List D)):OD:=⟨λs _=>RowR T k y s v,λ_ _ b=>Dg v=some b,λh F=>RowR.lt h F,λh I F=>⟨RowR.keep h I F,λ_ h=>h⟩⟩
theorem RowR.rel{T k:Nat}{v:Value}(h:RowR T k vl s v):(slD T k vl).rel s v:=by
 refine DN (hp:=[.row T k vl]) (av:=.own 0) (ρ:=λ_=>v) (base:=0) (λi o A=>?_) ⟨Nat.zero_lt_one,rfl⟩ rfl
 match i,A with
 |0,A=>cases A;exact h
theorem AVle.rows{hp:List Ow}{m id T sz:Nat}{v:Value}{rows:List (List D)}(I:hp[id]? = some (.obj (Ri v T sz rows))):AVle hp m (.d (ex v)) (.d (slD T sz rows)):=λb W s u l L=>by
 have L:u=v:=L;rw[L];exact RowR.rel (l id _ I)
theorem Lr{s0:An}(T A:Nat)(h:T≠335)(g:0<A)(f:Fy H (.obj (Ri (.slice none 0 0) T A []))=some vA)(k:AWp P s0 n vp vm ⟨vf,vA⟩):AWp P s0 n vp vm ⟨vf,H⟩:=by
 rw[EF f]at k;refine⟨λa w ⟨s,W,B,x⟩=>?_⟩;have:=x.new (GS.Le.refl s) (dst:=none) (v:=undef) (u:=undef) (r:=.d Cs) (ow:=.obj (Ri (.slice none 0 0) T A [])) (λd Z=>by cases Z) trivial ⟨[],⟨by simp,.inl ⟨rfl,rfl⟩⟩,h,g,λb F=>(by cases F),λk C=>absurd C ZbV⟩ (λb F=>by cases F);exact k.run a w ⟨s,_,B,this⟩
theorem Np{s0:An}(id T A:Nat)(y:List (List D))(I:H[id]? = some (.row T A y))(k:∀v,AWp P s0 n vp vm ⟨vf.map λp=>(p.1,down id (ex v) p.2),(H.map (Ow.mapA (down id (ex v)))).set id (.obj (Ri v T A y))⟩):AWp P s0 n vp vm ⟨vf,H⟩:=by
 refine⟨λa w ⟨s,W,C,B⟩=>(k (W id)).run a w ⟨s,W,C,?_⟩⟩
 exact B.upd (s':=s) B.le B.ok (GS.Chg.refl s) (id:=id) (o':=.obj (Ri (W id) T A y)) (ρ':=W) (f:=down id (ex (W id))) I (λb _ _=>⟨rfl,λ_=>Iff.rfl⟩) (λ_ _=>rfl) (show RowR T A y s (W id)from B.hp id _ I) (λb F=>.inl F) λU v R=>Zbe
def Sv(id:Nat):AV->AV
 |.d x=>.d x
 |.ptr i off=>bif Nat.beq i id then .d Cs else .ptr i off
 |.own i=>bif Nat.beq i id then .d Cs else .own i
 |.fn f N=>bif N.contains id then .d Cs else .fn f N
def AV.ni(id:Nat):AV->Bool
 |.d _=>true
 |.ptr i _=>!Nat.beq i id
 |.own i=>!Nat.beq i id
 |.fn _ N=>!N.contains id
theorem VX:∀{U:AV},U.ni n=true->Sv n U=U
 |.d _,_=>rfl
 |.ptr i _,h=>Zbf
 |.own i,h=>Zbf
 |.fn _ N,h=>by
  have h:(!N.contains n)=true:=h;have h:N.contains n=false:=by simpa using h
  simp only[Sv,h,cond_false]
theorem A3o{s0:An}{o:Oper}{G:Act}{X:Nat->Value}(xa:o.op=.call { callee:=.builtin .append,args:=#[x,y],argTypes:=#[b,b] })(hst:StI s0 n ⟨vf,H⟩ G s X)(hh:H[g]? = some (.obj (Ri ue T a vl)))(hF:vf.map (λp=>(p.1,Sv g p.2))=vf)(hM:H.map (Ow.mapA (Sv g))=H)(Z:G.eval x=ue)(S:(slD m a uf).rel s (G.eval y))(L:Tab P b (.slice T) vk ui v)(hT:Tab P T d a k z)(xn:z.cells.size=a)(xi:(vl.length+uf.length)*k<=140737488355328)(xm:vl.length+uf.length<=4611686018427387904) :
  RegG.OpStep P o G.eval s λu w=>∃xb,StI s0 n ⟨vf,H.set g (.row T a (vl++uf))⟩ G w xb/\AVr H.length xb w (.own g) u:=by
 have xq:RowR T a vl s ue:=hst.hp g _ hh;obtain⟨xs,I,O,W,U,h6⟩:=xq;obtain⟨A,c,e2,h7,h8,h9⟩:=S;have xg:g<H.length:=Ca hh
 have xw:∀(v':Value) (w:GS) (xu:List Value),(execOp G.eval o).run P s.w=.ok (.value v') w.w->GS.LeX s0.mine s0.g w->w.Ok->GS.Chg s w->w.w.ownsRow 0 T a v' (vl.length+uf.length) xu->(∀ui,Dg v'=some ui->∀E,w.S ui E↔E<(vl.length+uf.length)*a) ->
   (∀ui,ui<s.w.heap.size->Dg ue≠some ui->w.w.heap[ui]? = s.w.heap[ui]? /\ ∀E,w.S ui E↔s.S ui E)->(∀ui,Dg v'=some ui->Dg ue=some ui\/s.w.heap.size<=ui) ->
   (∀E,E<(vl++uf).length->((vl++uf).getD E []).length=a/\∀j,j<a->∃u,xu[E*a+j]? = some u/\u.oneCell'=true/\(Dd ((vl++uf).getD E []) j).rel w u) ->
   RegG.OpStep P o G.eval s λu w=>∃xb,StI s0 n ⟨vf,H.set g (.row T a (vl++uf))⟩ G w xb/\AVr H.length xb w (.own g) u:=by
  intro v' w xu xe q1 q2 q3 q4 q5 q6 q7 q8;have M:(vl++uf).length=vl.length+uf.length:=List.length_append
  have xk:=hst.upd (s':=w) (o':=.row T a (vl++uf)) (ρ':=λi=>if i=g then v' else X i) (f:=Sv g) q1 q2 q3 hh q6 (λj l=>if_neg l)
   ⟨xu, by simp only [if_pos]; rw [M]; exact q4, O, W, fun ui K E => by simp only [if_pos] at K; rw [M]; exact q5 ui K E, q8⟩ (fun ui K => by replace K : Dg (if g = g then v' else X g) = some ui := K; rw [if_pos rfl] at K; exact q7 ui K) fun av u xh => by
    cases av with
    |d F=>exact F.st xh q3
    |ptr i off=>
     obtain⟨p1,bb,p2,p3⟩:=xh;show AVr H.length _ w (bif Nat.beq i g then .d Cs else .ptr i off) u
     cases K:Nat.beq i g with
     |true=>trivial
     |false=>
      have e:i≠g:=Nat.ne_of_beq_eq_false K;refine⟨p1,bb,?_,p3⟩;show(if i=g then v' else X i)=_;rw[if_neg e];exact p2
    |own j=>
     obtain⟨p1,p2⟩:=xh;show AVr H.length _ w (bif Nat.beq j g then .d Cs else .own j) u
     cases K:Nat.beq j g with
     |true=>trivial
     |false=>
      have e:j≠g:=Nat.ne_of_beq_eq_false K;exact⟨p1,p2.trans (if_neg e).symm⟩
    |fn f xc=>
     obtain⟨p1,p2⟩:=xh;show AVr H.length _ w (bif xc.contains g then .d Cs else .fn f xc) u
     cases K:xc.contains g with
     |true=>trivial
     |false=>
      have t:g∉xc:=λh=>by rw[List.contains_iff_mem.2 h]at K;cases K
      exact⟨p1,by rw[p2,List.map_congr_left λi Q=>(if_neg λe=>t (by rw[<-e];exact Q):(if i=g then v' else X i)=X i)]⟩
  have xl:StI s0 n ⟨vf,H.set g (.row T a (vl++uf))⟩ G w (λi=>if i=g then v' else X i):=by
   have:=xk;simp only[hF,hM]at this;exact this
  exact HN xe w rfl ⟨_,xl,xg,(if_pos rfl).symm⟩
 have xt:∀v' R,(Builtin.append_ #[b,b] o.type #[ue,G.eval y]).run P s.w=.ok v' R->(execOp G.eval o).run P s.w=.ok (.value v') R:=λv' R Y=>by
  simp only[execOp,xa,resolve,invoke,builtin,Sem.run_bind,Sem.run_pure,Result.andThen_ok,List.map_toArray,List.map_cons,List.map_nil,Z,Y]
 rcases Nat.eq_zero_or_pos uf.length with r | r
 .obtain rfl:uf=[]:=List.eq_nil_of_length_eq_zero r
  obtain⟨i,Q,hz,xo,xp⟩:=hT.info
  have xx:∃B N C,ue=.slice B N C/\N<=C:=by
   rcases I.2 with⟨w1,_⟩ | ⟨q,cap,cur,w1,_,_,w2,_⟩
   .exact ⟨none,0,0,w1,Nat.le_refl _⟩
   .exact ⟨_,_,_,w1,w2⟩
  obtain⟨B,N,C,w1,w2⟩:=xx
  have Y:(Builtin.append_ #[b,b] o.type #[ue,G.eval y]).run P s.w=.ok ue s.w:=by
   rw[e2,w1]
   cases A with
   |none=>exact run_append_nothing s.w _ _ _ _ i L.und Q _ _ _ w2 _ (Src.ofNil s.w L.und c)
   |some ad=>exact run_append_nothing s.w _ _ _ _ i L.und Q _ _ _ w2 _ (Src.ofSlice s.w L.und _ _ _ [] ZbV ZbV ZbV)
  refine xw ue s xs (xt _ _ Y) hst.le hst.ok (GS.Chg.refl s) (by simpa using I) (λui K E=>by simpa using U ui K E) (λui K _=>⟨rfl,λ_=>Iff.rfl⟩) (λui K=>.inl K) λE J=>?_;rw[List.append_nil]at J ⊢;exact⟨(h6 E J).1,(h6 E J).2⟩
 .obtain ⟨q,p,e3,xd⟩:=h9 r
  subst e3;obtain⟨xf,n1,n2,n3,n4⟩:=Ou xd;obtain⟨v',w,Y,q1,q2,q3,q4,q5,q6,q7⟩:=Sc (P:=P) (ty:=o.type) hst.le hst.ok L.und hT xn O W I (λui K=>hst.own g _ ui hh K) U q p uf.length c xf n1 r n2 n3 xi xm;refine xw v' w (xs++xf) (xt _ _ (by rw[e2];exact Y)) q1 q2 q3 q4 q5 q6 q7 λE J=>?_;rw[List.length_append]at J;rw[Js];have xr:xs.length=vl.length*a:=I.1;split
  .rename_i V
   refine⟨(h6 E V).1,λj l=>?_⟩;obtain⟨u,r1,xv,r3⟩:=(h6 E V).2 j l;refine⟨u,?_,xv,(Dd _ j).st r3 q3⟩;rw[List.getElem?_append_left]
   .exact r1
   .rw [xr]
    have:(E+1)*a<=vl.length*a:=Nat.mul_le_mul_right a V;exact Zgn
  .rename_i xj
   refine⟨(xd (E-vl.length) ZbK).1,λj l=>?_⟩;obtain⟨u,r1,xv,r3⟩:=n4 (E-vl.length) j ZbK l;refine⟨u,?_,xv,(Dd _ j).st r3 q3⟩;have e3:E*a=vl.length*a+(E-vl.length)*a:=Zhw
   exact ZhQ
theorem DTurn.rows{s0:An}{hp:List Ow}{t T Y sz bytes id m b c:Nat}{z N v:Value}{rows R:List (List D)}{G:List (Nat×Nat)}{dd:Option Tmp}{ty:TypeId}{ps:String}{af:Array Edge}{gd:Option (Nat×Bool)}(S:hp[id]? = some (.obj (Ri v T sz rows)))
  (E:Eu ⟨vf,Dp hp id (.obj (Ri v T sz rows)) (.row T sz (rows++R)) false⟩ (u.map HR.av) G x=.d (ex v)) (O:Eu ⟨vf,Dp hp id (.obj (Ri v T sz rows)) (.row T sz (rows++R)) false⟩ (u.map HR.av) G y=.d (slD Y sz R))
  (J:Tab P t (.slice T) m b N) (Q:Tab P T d sz bytes z) (Z:z.cells.size=sz) (C:(u.zipIdx.all λp=>Nat.beq p.2 c||l.contains p.2||p.1.ni id)=true) (I:(vf.all λp=>p.2.ni id)=true) (X:hp.map (Ow.mapA (Sv id))=hp) (j:(rows.length+R.length)*bytes<=140737488355328) (f:rows.length+R.length<=4611686018427387904) :
  DTurn P s0 n vf hp id (.obj (Ri v T sz rows)) (.row T sz (rows++R)) u l c G ⟨dd,.call { callee:=.builtin .append,args:=#[x,y],argTypes:=#[t,t] },ty,ps,af,gd⟩ (.own id):=λF hF s W a M e=>by
 have g:Dp hp id (.obj (Ri v T sz rows)) (.row T sz (rows++R)) false=hp:=Zbd
 have k:=e x ZcX;have o:=e y ZcX;rw[E]at k;rw[O]at o;rw[g]at M;refine A3o (P:=P) (o:=⟨dd,.call { callee:=.builtin .append,args:=#[x,y],argTypes:=#[t,t] },ty,ps,af,gd⟩) rfl M S ?_ X (exD k) o J Q Z j f
 have:∀p∈F,Sv id p.2=p.2:=λp K=>by
  rcases hF p K with⟨i,A,B,L⟩ | h
  .have:=List.all_eq_true.1 C (p.2, i) (by rw [List.mem_zipIdx_iff_getElem?]; exact L)
   simp only[Bool.or_eq_true]at this;rcases this with(V | V) | V
   .exact absurd (Nat.eq_of_beq_eq_true V) A
   .exact absurd (List.contains_iff_mem.1 V) B
   .exact VX V
  .exact VX (List.all_eq_true.1 I p h)
 conv=>rhs;rw[<-List.map_id F]
 exact List.map_congr_left λp K=>by rw[this p K];rfl
theorem TY(s:Bool)(l:List Nat)(K:SmW l):Wb 221 (AJ [ex (.bool s),wD l]) (GF s l):=Wb.intro λb F=>by
 have W:∀k,k<l.length->l.getD k 0<4294967296:=λk C=>K.1 _ (Cd C);have n:=K.2;have S:(GF s l).length=(Bo (2*l.length+(if s=true then 1 else 0))).length+(l.flatMap Cm).length:=by rw[GF,List.length_append]
 have f:2*l.length+(if s=true then 1 else 0)<18446744073709551616:=by split<;>omega
 obtain⟨N,X⟩:∃N,N=2*l.length+(if s=true then 1 else 0):=⟨_,rfl⟩;have i:GF s l=Bo N++l.flatMap Cm:=by rw[X];rfl
 rw[<-X]at f S;have I:=FD N f b ZbK;refine CP Tryz.func221 rfl (Ag Tryz.func221 ZbM ZbM) rfl λA=>?_;rw[Tryz.ntmps221];intro z;cases s
 .have Y:N=2*l.length:=by rw [X];simp
  apply Y1;refine Bx ?_;refine Wa<|Y0<|Y1<|Wa<|Y0<|Ao<|Y1 ?_;refine Wq AF ?_;refine Wq AL ?_;refine Y0<|Cf<|Ys<|Y1<|Wm ?_;refine Wq AF ?_;refine Wq AL ?_;refine Wq OB ?_;refine Wq (AC (r:=((l.length:Nat):Int)) (ao rfl) (Aa rfl) (Aa rfl) (Ec ZbK)) ?_;refine Wq (IY (r:=((2*l.length:Nat):Int)) (ao rfl) (ao rfl) ZcQ) ?_;refine Wm ?_;refine Wq (DG (r:=((2*l.length:Nat):Int)) (ao rfl) (ao rfl) ZcQ) ?_
  refine Ce [0] (Zep) rfl ZbL rfl ZbH ZbG ZbN ZbE rfl ?_;rintro _ _ ⟨rfl,rfl⟩;refine Zfp ?_;refine Az (λP d=>∃k,k<=l.length/\P=l.length-k/\d=⟨[(0,.own 0),(3,.ptr 2 0),(6,.d (ex (.int .i64 (k:Nat))))],[.row 5 1 (CE (b++Bo N++(l.take k).flatMap Cm)),.pin [],.var 109 ([ex (.bool false),wD l].map .d)]⟩) ?le ⟨0,by omega,rfl,rfl⟩ ?round
  case le=>exact Zjg
  case round=>
   exact Zbg
 .have Y:N=2*l.length+1:=by rw [X];simp
  apply Y1;refine Bx ?_;refine Wa<|Y0<|Y1<|Wa<|Y0<|Ao<|Y1 ?_;refine Wq AF ?_;refine Wq AL ?_;refine Y0<|Ct<|AWp.region<|Wa<|Y0<|Y1<|Wm ?_;refine Wq AF ?_;refine Wq AL ?_;refine Wq OB ?_;refine Wq (AC (r:=((l.length:Nat):Int)) (ao rfl) (Aa rfl) (Aa rfl) (Ec ZbK)) ?_;refine Wq (IY (r:=((2*l.length:Nat):Int)) (ao rfl) (ao rfl) ZcQ) ?_;refine Wm ?_;refine Wq (DG (r:=((2*l.length+1:Nat):Int)) (ao rfl) (ao rfl) ZcQ) ?_
  refine Ce [0] (Zep) rfl ZbL rfl ZbH ZbG ZbN ZbE rfl ?_;rintro _ _ ⟨rfl,rfl⟩;refine Zfp ?_;refine Az (λP d=>∃k,k<=l.length/\P=l.length-k/\d=⟨[(0,.own 0),(3,.ptr 2 0),(6,.d (ex (.int .i64 (k:Nat))))],[.row 5 1 (CE (b++Bo N++(l.take k).flatMap Cm)),.pin [],.var 109 ([ex (.bool true),wD l].map .d)]⟩) ?le ⟨0,by omega,rfl,rfl⟩ ?round
  case le=>exact Zjg
  case round=>
   exact Zbg
theorem Ef(q:RQ)(w:QB q):Wb 125 (AJ (Ih q)) (CA q):=Wb.intro λb F=>by
 simp only[CA,List.length_append]at F;have g:=TY q.b q.l w.n b ZbK;have A:=TY q.b' q.l' w.d (b++GF q.b q.l) ZbY;refine CP Tryz.func125 rfl (Ag Tryz.func125 ZbM ZbM) rfl λB=>?_;rw[Tryz.ntmps125];intro z;refine Go ?_;refine Eq 0 5 1 (λL=>CE (([b,b++GF q.b q.l,b++GF q.b q.l++GF q.b' q.l']:List (List Nat)).getD L [])) 2 (some 0) (λk=>([3,6]:List Nat).getD k 0) [.o 0,.q (.ptr 2 0),.q (.d (AJ [ex (.bool q.b),wD q.l])),.t 0,.q (.ptr 2 2),.q (.d (AJ [ex (.bool q.b'),wD q.l'])),.t 1,.o 2] [[],[],[(6,1)],[(5,0),(7,2)],[],[(9,4)],[(8,3),(10,5)],[(11,6)]] [(3,.ptr 2 0)] [(4,.own 0)] ZbM rfl ⟨rfl,trivial⟩ (λ_ h=>by cases h;rfl) (by refine CSteps.s ?_;refine Ed ?_;refine Ed ?_;refine Mw (g) ?_;refine Ed ?_;refine Ed ?_;refine Mw (A) ?_;refine CSteps.s ?_;exact CSteps.nil) ZbM rfl ZbL ⟨rfl,trivial⟩ [.row 5 1 (CE (b++GF q.b q.l++GF q.b' q.l')),.pin [],.var 111 ((Ih q).map .d)] rfl ?_;refine Go ?_
 first | refine Be (RetsA.one rfl) rfl ?_ rfl | refine AE (RetsA.one rfl) rfl ?_ rfl
 exact ZiY
theorem HA{F:Type}[Inhabited F]{e n b Y r T A k:Nat}{f:F->List D}{l:List F}{u:F}(E:GG H (vz x)=some (slD T A (l.map f)))(O:vz y=.d (ex (.int o (k:Nat))))(J:Tab P U (.slice e) n b z)(X:Tab P e d Y r v)(B:Y=A)(C:k<l.length)(L:u=l.getD k default):Quiet P H ⟨vC,.indexAddr U x y,t,vG,vH,vT⟩ vz (.d (Fb T (f u))):=L▸Ck E O J X B C
theorem SM(L:List (RTm))(T:ED TW L):Wb 58 (Jh L) (Cr L):=Wb.intro λb F=>by
 have i:=CO (e:=Ex) (l:=L) λx _=>OS x;have S:(Cr L).length=(Bo L.length).length+(L.flatMap Ex).length:=by rw[Cr,Bn,List.length_append]
 rw[S]at F;have g:=FD L.length ZbK b ZbK;refine CP Tryz.func58 rfl (Ag Tryz.func58 ZbM ZbM) rfl λA=>?_;rw[Tryz.ntmps58];intro B;refine Y1<|Wa<|Y0<|Y1<|Wm<|Wm ?_;refine Wq (Bi rfl (Aa rfl)) ?_;refine Wq (AC (r:=((L.length:Nat):Int)) (ao rfl) (Aa rfl) (Aa rfl) (Ec ZbK)) ?_
 refine Ce [0] (g) rfl ZbL rfl ZbH ZbG ZbN ZbE rfl ?_;rintro _ _ ⟨rfl,rfl⟩;refine Zfp ?_;refine Az (λP d=>∃k,k<=L.length/\P=L.length-k/\d=⟨[(0,.own 0),(1,.d (Jh L)),(5,.d (ex (.int .i64 (k:Nat))))],[.row 5 1 (CE (b++Bo L.length++(L.take k).flatMap Ex)),.pin []]⟩) ?le ⟨0,by omega,rfl,rfl⟩ ?round
 case le=>exact Ad Zcd ZcR
 case round=>
  rintro P _ ⟨k,C,rfl,rfl⟩;by_cases Q:k<L.length
  .have C:=CJ Ex Q
   obtain⟨t,J⟩:∃t,t=L.getD k default:=⟨_,rfl⟩;have h:=T _ (Cd Q);rw[<-J]at C h;have w:(Ex t).length=(CA ⟨t.b,t.l,t.b',t.l'⟩).length+(CX (λz=>Bo (u64 z)) t.m 8).length:=by rw[<-List.length_append];rfl
   have I:=Ef ⟨t.b,t.l,t.b',t.l'⟩ ⟨h.n,h.d⟩ (b++Bo L.length++(L.take k).flatMap  Ex) ZbY;refine Ao<|Y1<|Wm<|Wm ?_;refine Wq (Bi rfl (Aa rfl)) ?_;refine Wq Bj ?_;refine Y0<|Ct<|Ys<|Ao<|AWp.block<|Y1<|Wm<|Wm<|Wm ?_;refine Wq (HA (k:=k) rfl (ao rfl) (Aa rfl) (Aa rfl) rfl Q J) ?_;refine Wq AP ?_;refine Wq Xt ?_
   refine Ce [0] (I) rfl ZbL rfl ZbH ZbG ZbN ZbE rfl ?_;rintro _ _ ⟨rfl,rfl⟩;refine Zfp ?_;refine Az (λP d=>∃j,j<=8/\P=8-j/\d=⟨[(0,.own 0),(1,.d (Jh L)),(5,.d (ex (.int .i64 (k:Nat)))),(6,.d (ex (.int .i64 (j:Nat))))],[.row 5 1 (CE (b++Bo L.length++(L.take k).flatMap Ex++CA ⟨t.b,t.l,t.b',t.l'⟩++CX (λz=>Bo (u64 z)) t.m j)),.pin []]⟩) ?lej ⟨0,by omega,rfl,rfl⟩ ?roundj
   case lej=>exact Ad Zcw Zdd
   case roundj=>
    rintro P _ ⟨j,e,rfl,rfl⟩;by_cases E:j<8
    .have R:=Fh (λz=>Bo (u64 z)) t.m E
     have G:=FD (u64 (t.m j)) (by unfold u64;omega) (b++Bo L.length++(L.take k).flatMap Ex++CA ⟨t.b,t.l,t.b',t.l'⟩++CX (λz=>Bo (u64 z)) t.m j) ZbP;refine Ao<|Y1<|Wm ?_;refine Wq Bj ?_;refine Y0<|Ct<|Ys<|Ao<|AWp.block<|AWp.region<|Wm<|Wm<|Wm<|Wm ?_;refine Wq (HA (k:=k) rfl (ao rfl) (Aa rfl) (Aa rfl) rfl Q J) ?_;refine Wq AP ?_;refine Wq A5S ?_;refine Wq (IE (ao rfl) (Aa rfl) rfl (GD E)) ?_;refine Wq (AC (r:=((u64 (t.m j):Nat):Int)) (ao rfl) (Aa rfl) (Aa rfl) (Ub (t.m j))) ?_
     refine Ce [0] (G) rfl ZbL rfl ZbH ZbG ZbN ZbE rfl ?_;rintro _ _ ⟨rfl,rfl⟩;refine Zfp ?_;exact Zhj
    .obtain rfl:j=8:=by omega
     refine Zfc ?_;exact Ad Zcd (by(refine HpLe.cons (OwLe.row (by rw[BS Ex Q,<-List.append_assoc,<-J,List.append_assoc (_++_) (CA _)];rfl)) ?_);exact HpLe.cons (Aj rfl)<|HpLe.nil)
  .obtain rfl:k=L.length:=by omega
   refine Ao<|Y1<|Wm<|Wm ?_;refine Wq (Bi rfl (Aa rfl)) ?_;refine Wq Bl ?_;refine Y0<|Cf<|BZ<|Bz<|BP<|BE<|Yn<|Y1<|Wm<|Wa<|Y0<|Ci ?_
   first | refine Be (RetsA.one rfl) rfl ?_ rfl | refine AE (RetsA.one rfl) rfl ?_ rfl
   exact⟨rfl,by rw[List.take_length,Cr,Bn,<-List.append_assoc];rfl⟩
theorem Ir(L:List (List RTm))(T:ED PoW L):Wb 51 (Ip L) (AN L):=Wb.intro λb F=>by
 have i:=CO (e:=Cr) (l:=L) λx _=>Iv _ _;have S:(AN L).length=(Bo L.length).length+(L.flatMap Cr).length:=by rw[AN,Bn,List.length_append]
 rw[S]at F;have g:=FD L.length ZbK b ZbK;refine CP Tryz.func51 rfl (Ag Tryz.func51 ZbM ZbM) rfl λA=>?_;rw[Tryz.ntmps51];intro z;refine Y1<|Wa<|Y0<|Y1<|Wm<|Wm ?_;refine Wq (Bi rfl (Aa rfl)) ?_;refine Wq (AC (r:=((L.length:Nat):Int)) (ao rfl) (Aa rfl) (Aa rfl) (Ec ZbK)) ?_
 refine Ce [0] (g) rfl ZbL rfl ZbH ZbG ZbN ZbE rfl ?_;rintro _ _ ⟨rfl,rfl⟩;refine Zfp ?_;refine Az (λP d=>∃k,k<=L.length/\P=L.length-k/\d=⟨[(0,.own 0),(1,.d (Ip L)),(5,.d (ex (.int .i64 (k:Nat))))],[.row 5 1 (CE (b++Bo L.length++(L.take k).flatMap Cr)),.pin []]⟩) ?le ⟨0,by omega,rfl,rfl⟩ ?round
 case le=>exact Ad Zcd ZcR
 case round=>
  rintro P _ ⟨k,C,rfl,rfl⟩;by_cases Q:k<L.length
  .have C:=CJ Cr Q
   have I:=SM (L.getD k default) (T _ (Cd Q)) (b++Bo L.length++(L.take k).flatMap Cr) ZbY;refine Ao<|Y1<|Wm<|Wm ?_;refine Wq (Bi rfl (Aa rfl)) ?_;refine Wq Bj ?_;refine Y0<|Ct<|Ys<|Ao<|AWp.block<|AWp.region<|Wm<|Wm<|Wm ?_;refine Wq (Ck (k:=k) rfl (ao rfl) (Aa rfl) (Aa rfl) rfl Q) ?_;refine Wq AO ?_
   refine Ce [0] (I) rfl ZbL rfl ZbH ZbG ZbN ZbE rfl ?_;rintro _ _ ⟨rfl,rfl⟩;refine ZfY ?_;exact Ad Zcd (by exact HpLe.cons (OwLe.row (by rw[BS Cr Q,<-List.append_assoc]))<|HpLe.cons (Aj rfl)<|HpLe.nil)
  .obtain rfl:k=L.length:=by omega
   refine Ao<|Y1<|Wm<|Wm ?_;refine Wq (Bi rfl (Aa rfl)) ?_;refine Wq Bl ?_;refine Y0<|Cf<|BZ<|Bz<|BP<|BE<|Yn<|Y1<|Wm<|Wa<|Y0<|Ci ?_
   first | refine Be (RetsA.one rfl) rfl ?_ rfl | refine AE (RetsA.one rfl) rfl ?_ rfl
   exact⟨rfl,by rw[List.take_length,AN,Bn,<-List.append_assoc];rfl⟩
theorem OU(L:List (List (List RTm)))(T:ED PsW L):Wb 201 (Wc L) (BC L):=Wb.intro λb F=>by
 have i:=CO (e:=AN) (l:=L) λx _=>Iv _ _;have S:(BC L).length=(Bo L.length).length+(L.flatMap AN).length:=by rw[BC,Bn,List.length_append]
 rw[S]at F;have g:=FD L.length ZbK b ZbK;refine CP Tryz.func201 rfl (Ag Tryz.func201 ZbM ZbM) rfl λA=>?_;rw[Tryz.ntmps201];intro z;refine Y1<|Wa<|Y0<|Y1<|Wm<|Wm ?_;refine Wq (Bi rfl (Aa rfl)) ?_;refine Wq (AC (r:=((L.length:Nat):Int)) (ao rfl) (Aa rfl) (Aa rfl) (Ec ZbK)) ?_
 refine Ce [0] (g) rfl ZbL rfl ZbH ZbG ZbN ZbE rfl ?_;rintro _ _ ⟨rfl,rfl⟩;refine Zfp ?_;refine Az (λP d=>∃k,k<=L.length/\P=L.length-k/\d=⟨[(0,.own 0),(1,.d (Wc L)),(5,.d (ex (.int .i64 (k:Nat))))],[.row 5 1 (CE (b++Bo L.length++(L.take k).flatMap AN)),.pin []]⟩) ?le ⟨0,by omega,rfl,rfl⟩ ?round
 case le=>exact Ad Zcd ZcR
 case round=>
  rintro P _ ⟨k,C,rfl,rfl⟩;by_cases Q:k<L.length
  .have C:=CJ AN Q
   have I:=Ir (L.getD k default) (T _ (Cd Q)) (b++Bo L.length++(L.take k).flatMap AN) ZbY;refine Ao<|Y1<|Wm<|Wm ?_;refine Wq (Bi rfl (Aa rfl)) ?_;refine Wq Bj ?_;refine Y0<|Ct<|Ys<|Ao<|AWp.block<|AWp.region<|Wm<|Wm<|Wm ?_;refine Wq (Ck (k:=k) rfl (ao rfl) (Aa rfl) (Aa rfl) rfl Q) ?_;refine Wq AO ?_
   refine Ce [0] (I) rfl ZbL rfl ZbH ZbG ZbN ZbE rfl ?_;rintro _ _ ⟨rfl,rfl⟩;refine ZfY ?_;exact Ad Zcd (by exact HpLe.cons (OwLe.row (by rw[BS AN Q,<-List.append_assoc]))<|HpLe.cons (Aj rfl)<|HpLe.nil)
  .obtain rfl:k=L.length:=by omega
   refine Ao<|Y1<|Wm<|Wm ?_;refine Wq (Bi rfl (Aa rfl)) ?_;refine Wq Bl ?_;refine Y0<|Cf<|BZ<|Bz<|BP<|BE<|Yn<|Y1<|Wm<|Wa<|Y0<|Ci ?_
   first | refine Be (RetsA.one rfl) rfl ?_ rfl | refine AE (RetsA.one rfl) rfl ?_ rfl
   exact⟨rfl,by rw[List.take_length,BC,Bn,<-List.append_assoc];rfl⟩
theorem Ua(L:List (RQ))(T:ED QB L):Wb 202 (KG L) (FJ L):=Wb.intro λb F=>by
 have i:=CO (e:=CA) (l:=L) λx _=>HL x;have S:(FJ L).length=(Bo L.length).length+(L.flatMap CA).length:=by rw[FJ,Bn,List.length_append]
 rw[S]at F;have g:=FD L.length ZbK b ZbK;refine CP Tryz.func202 rfl (Ag Tryz.func202 ZbM ZbM) rfl λA=>?_;rw[Tryz.ntmps202];intro z;refine Y1<|Wa<|Y0<|Y1<|Wm<|Wm ?_;refine Wq (Bi rfl (Aa rfl)) ?_;refine Wq (AC (r:=((L.length:Nat):Int)) (ao rfl) (Aa rfl) (Aa rfl) (Ec ZbK)) ?_
 refine Ce [0] (g) rfl ZbL rfl ZbH ZbG ZbN ZbE rfl ?_;rintro _ _ ⟨rfl,rfl⟩;refine Zfp ?_;refine Az (λP d=>∃k,k<=L.length/\P=L.length-k/\d=⟨[(0,.own 0),(1,.d (KG L)),(5,.d (ex (.int .i64 (k:Nat))))],[.row 5 1 (CE (b++Bo L.length++(L.take k).flatMap CA)),.pin []]⟩) ?le ⟨0,by omega,rfl,rfl⟩ ?round
 case le=>exact Ad Zcd ZcR
 case round=>
  rintro P _ ⟨k,C,rfl,rfl⟩;by_cases Q:k<L.length
  .have C:=CJ CA Q
   have I:=Ef (L.getD k default) (T _ (Cd Q)) (b++Bo L.length++(L.take k).flatMap CA) ZbY;refine Ao<|Y1<|Wm<|Wm ?_;refine Wq (Bi rfl (Aa rfl)) ?_;refine Wq Bj ?_;refine Y0<|Ct<|Ys<|Ao<|AWp.block<|AWp.region<|Wm<|Wm<|Wm ?_;refine Wq (Ck (k:=k) rfl (ao rfl) (Aa rfl) (Aa rfl) rfl Q) ?_;refine Wq Cp ?_
   refine Ce [0] (I) rfl ZbL rfl ZbH ZbG ZbN ZbE rfl ?_;rintro _ _ ⟨rfl,rfl⟩;refine ZfY ?_;exact Ad Zcd (by exact HpLe.cons (OwLe.row (by rw[BS CA Q,<-List.append_assoc]))<|HpLe.cons (Aj rfl)<|HpLe.nil)
  .obtain rfl:k=L.length:=by omega
   refine Ao<|Y1<|Wm<|Wm ?_;refine Wq (Bi rfl (Aa rfl)) ?_;refine Wq Bl ?_;refine Y0<|Cf<|BZ<|Bz<|BP<|BE<|Yn<|Y1<|Wm<|Wa<|Y0<|Ci ?_
   first | refine Be (RetsA.one rfl) rfl ?_ rfl | refine AE (RetsA.one rfl) rfl ?_ rfl
   exact⟨rfl,by rw[List.take_length,FJ,Bn,<-List.append_assoc];rfl⟩
theorem Uu(L:List (Nat->Int))(T:ED (GI IW) L):Wb 57 (DW L) (Cg L):=Wb.intro λb F=>by
 have i:=CO (e:=FL) (l:=L) λx _=>GQ Kj _;have S:(Cg L).length=(Bo L.length).length+(L.flatMap FL).length:=by rw[Cg,Bn,List.length_append]
 rw[S]at F;have g:=FD L.length ZbK b ZbK;refine CP Tryz.func57 rfl (Ag Tryz.func57 ZbM ZbM) rfl λA=>?_;rw[Tryz.ntmps57];intro z;refine Y1<|Wa<|Y0<|Y1<|Wm<|Wm ?_;refine Wq (Bi rfl (Aa rfl)) ?_;refine Wq (AC (r:=((L.length:Nat):Int)) (ao rfl) (Aa rfl) (Aa rfl) (Ec ZbK)) ?_
 refine Ce [0] (g) rfl ZbL rfl ZbH ZbG ZbN ZbE rfl ?_;rintro _ _ ⟨rfl,rfl⟩;refine Zfp ?_;refine Az (λP d=>∃k,k<=L.length/\P=L.length-k/\d=⟨[(0,.own 0),(1,.d (DW L)),(5,.d (ex (.int .i64 (k:Nat))))],[.row 5 1 (CE (b++Bo L.length++(L.take k).flatMap FL)),.pin []]⟩) ?le ⟨0,by omega,rfl,rfl⟩ ?round
 case le=>exact Ad Zcd ZcR
 case round=>
  rintro P _ ⟨k,C,rfl,rfl⟩;by_cases Q:k<L.length
  .have C:=CJ FL Q
   obtain⟨t,J⟩:∃t,t=L.getD k default:=⟨_,rfl⟩;have h:=T _ (Cd Q);rw[<-J]at C h;have w:(FL t).length=(CX Bc t 8).length:=rfl;refine Ao<|Y1<|Wm<|Wm ?_;refine Wq (Bi rfl (Aa rfl)) ?_;refine Wq Bj ?_;refine Y0<|Ct<|Ys<|Ao<|AWp.block<|Y1<|Wa<|Y0<|AWp.block ?_
   refine Az (λP d=>∃j,j<=8/\P=8-j/\d=⟨[(0,.own 0),(1,.d (DW L)),(5,.d (ex (.int .i64 (k:Nat)))),(6,.d (ex (.int .i64 (j:Nat))))],[.row 5 1 (CE (b++Bo L.length++(L.take k).flatMap FL++CX (Bc) t j)),.pin []]⟩) ?lej ⟨0,by omega,rfl,rfl⟩ ?roundj
   case lej=>exact Ad Zcw Zdd
   case roundj=>
    rintro P _ ⟨j,e,rfl,rfl⟩;by_cases B:j<8
    .have R:=Fh (Bc) t B
     have E:=ES (t j) (h j B) (b++Bo L.length++(L.take k).flatMap FL++CX (Bc) t j) ZbP;refine Ao<|Y1<|Wm ?_;refine Wq Bj ?_;refine Y0<|Ct<|Ys<|Ao<|AWp.block<|AWp.region<|Wm<|Wm<|Wm<|Wm ?_;refine Wq (HA (k:=k) rfl (ao rfl) (Aa rfl) (Aa rfl) rfl Q J) ?_;refine Wq (JX (k:=j) (ao rfl) (ao rfl) (Aa rfl) (Aa rfl) B) ?_;refine Wq (IE (ao rfl) (Aa rfl) rfl (GD B)) ?_
     refine Ce [0] (E) rfl ZbL rfl ZbH ZbG ZbN ZbE rfl ?_;rintro _ _ ⟨rfl,rfl⟩;refine Zfp ?_;exact Zhj
    .obtain rfl:j=8:=by omega
     refine Zfc ?_;exact Ad Zcd (by(refine HpLe.cons (OwLe.row (by rw[BS FL Q,<-List.append_assoc,<-J];rfl)) ?_);exact HpLe.cons (Aj rfl)<|HpLe.nil)
  .obtain rfl:k=L.length:=by omega
   refine Ao<|Y1<|Wm<|Wm ?_;refine Wq (Bi rfl (Aa rfl)) ?_;refine Wq Bl ?_;refine Y0<|Cf<|BZ<|Bz<|BP<|BE<|Yn<|Y1<|Wm<|Wa<|Y0<|Ci ?_
   first | refine Be (RetsA.one rfl) rfl ?_ rfl | refine AE (RetsA.one rfl) rfl ?_ rfl
   exact⟨rfl,by rw[List.take_length,Cg,Bn,<-List.append_assoc];rfl⟩
theorem A2E{l:Array Field}{B:Field}(E:vz x=.d (Fb k c))(j:Tab P U (.struct l) b T z)(p:l[n]? = some B)(X:Tab P B.type d m a v)(i:Nat.beq m 0=false)(A:B.offset=g):Quiet P H ⟨vC,.fieldAddr U x n,t,vG,vH,vT⟩ vz (.d (Fb k (c.drop g))):=by
 subst A;exact Mj (o:=⟨vC,.fieldAddr U x n,t,vG,vH,vT⟩) rfl E j p X (Nat.ne_of_beq_eq_false i)
theorem XL{f:Nat->RQ×RQ}(h:n<8):PartAt (((DH f).drop (n*8)).drop 0) 0 4 (Ih (f n).1):=by
 have A:=HB (c:=λi=>Lw (f i)) (n:=8) (λ_=>rfl) h;have K:(FU λi=>Lw (f i)).length=64:=DL (n:=8) (λ_=>rfl);refine⟨by simp only[DH,List.length_drop,K];omega,?_⟩;have B:=A.eq;have:(Ih (f n).1)=(Lw (f n)).take 4:=rfl;rw[this,<-B,List.drop_zero,List.drop_zero,List.take_take];rfl
theorem XK{f:Nat->RQ×RQ}(h:n<8):PartAt (((DH f).drop (n*8)).drop 4) 0 4 (Ih (f n).2):=by
 have A:=HB (c:=λi=>Lw (f i)) (n:=8) (λ_=>rfl) h;have K:(FU λi=>Lw (f i)).length=64:=DL (n:=8) (λ_=>rfl);refine⟨by simp only[DH,List.length_drop,K];omega,?_⟩;have B:=A.eq;have:(Ih (f n).2)=(Lw (f n)).drop 4:=rfl;rw[this,<-B,List.drop_zero,List.drop_take];rfl
theorem Vl(L:List (Nat->RQ×RQ))(T:ED (GI VW) L):Wb 203 (Gy L) (EL L):=Wb.intro λb F=>by
 have i:=CO (e:=GU) (l:=L) λx _=>GQ MT _;have S:(EL L).length=(Bo L.length).length+(L.flatMap GU).length:=by rw[EL,Bn,List.length_append]
 rw[S]at F;have g:=FD L.length ZbK b ZbK;refine CP Tryz.func203 rfl (Ag Tryz.func203 ZbM ZbM) rfl λB=>?_;rw[Tryz.ntmps203];intro z;refine Y1<|Wa<|Y0<|Y1<|Wm<|Wm ?_;refine Wq (Bi rfl (Aa rfl)) ?_;refine Wq (AC (r:=((L.length:Nat):Int)) (ao rfl) (Aa rfl) (Aa rfl) (Ec ZbK)) ?_
 refine Ce [0] (g) rfl ZbL rfl ZbH ZbG ZbN ZbE rfl ?_;rintro _ _ ⟨rfl,rfl⟩;refine Zfp ?_;refine Az (λP d=>∃k,k<=L.length/\P=L.length-k/\d=⟨[(0,.own 0),(1,.d (Gy L)),(5,.d (ex (.int .i64 (k:Nat))))],[.row 5 1 (CE (b++Bo L.length++(L.take k).flatMap GU)),.pin []]⟩) ?le ⟨0,by omega,rfl,rfl⟩ ?round
 case le=>exact Ad Zcd ZcR
 case round=>
  rintro P _ ⟨k,C,rfl,rfl⟩;by_cases Q:k<L.length
  .have C:=CJ GU Q
   obtain⟨t,J⟩:∃t,t=L.getD k default:=⟨_,rfl⟩;have E:=T _ (Cd Q);rw[<-J]at C E;have w:(GU t).length=(CX FX t 8).length:=rfl;refine Ao<|Y1<|Wm<|Wm ?_;refine Wq (Bi rfl (Aa rfl)) ?_;refine Wq Bj ?_;refine Y0<|Ct<|Ys<|Ao<|AWp.block<|Y1<|Wa<|Y0<|AWp.block ?_
   refine Az (λP d=>∃j,j<=8/\P=8-j/\d=⟨[(0,.own 0),(1,.d (Gy L)),(5,.d (ex (.int .i64 (k:Nat)))),(6,.d (ex (.int .i64 (j:Nat))))],[.row 5 1 (CE (b++Bo L.length++(L.take k).flatMap GU++CX FX t j)),.pin []]⟩) ?lej ⟨0,by omega,rfl,rfl⟩ ?roundj
   case lej=>exact Ad Zcw Zdd
   case roundj=>
    rintro P _ ⟨j,e,rfl,rfl⟩;by_cases M:j<8
    .have K:=Fh FX t M
     have R:=E j M;have G:(FX (t j)).length=(CA (t j).1).length+(CA (t j).2).length:=by rw[FX,List.length_append]
     have g:=Ef (t j).1 R.1 (b++Bo L.length++(L.take k).flatMap GU++CX FX t j) ZbY;have A:=Ef (t j).2 R.2 (b++Bo L.length++(L.take k).flatMap GU++CX FX t j++CA (t j).1) ZbY;refine Go ?_;refine Eq 0 5 1 (λI=>CE (([b++Bo L.length++(L.take k).flatMap GU++CX FX t j,b++Bo L.length++(L.take k).flatMap GU++CX FX t j++CA (t j).1,b++Bo L.length++(L.take k).flatMap GU++CX FX t j++CA (t j).1++CA (t j).2]:List (List Nat)).getD I [])) 2 (some 0) (λk=>([8,16]:List Nat).getD k 0) [.o 0,.q (.d (Gy L)),.q (.d (ex (.int .i64 (k:Nat)))),.q (.d (ex (.int .i64 (j:Nat)))),.q (.d (Fb 131 (DH t))),.q (.d (Fb 131 ((DH t).drop (j*8)))),.q (.d (Fb 131 (((DH t).drop (j*8)).drop 0))),.q (.d (AJ (Ih (t j).1))),.t 0,.q (.d (Gy L)),.q (.d (ex (.int .i64 (k:Nat)))),.q (.d (ex (.int .i64 (j:Nat)))),.q (.d (Fb 131 (DH t))),.q (.d (Fb 131 ((DH t).drop (j*8)))),.q (.d (Fb 131 (((DH t).drop (j*8)).drop 4))),.q (.d (AJ (Ih (t j).2))),.t 1,.o 2] [[],[],[],[],[(23,1),(24,2)],[(26,4),(25,3)],[(27,5)],[(28,6)],[(22,0),(29,7)],[],[],[],[(31,9),(32,10)],[(34,12),(33,11)],[(35,13)],[(36,14)],[(30,8),(37,15)],[(38,16)]] [(1,.d (Gy L)),(5,.d (ex (.int .i64 (k:Nat)))),(6,.d (ex (.int .i64 (j:Nat))))] [(0,.own 0),(1,.d (Gy L)),(5,.d (ex (.int .i64 (k:Nat)))),(6,.d (ex (.int .i64 (j:Nat))))] ZbM rfl ⟨rfl,rfl,rfl,trivial⟩ (λ_ h=>by cases h;rfl) (by refine CSteps.s ?_;refine Ed ?_;refine Ed ?_;refine Ed ?_;refine Ed ?_;refine Ed ?_;refine Ed ?_;refine Ed ?_;refine Mw (g) ?_;refine Ed ?_;refine Ed ?_;refine Ed ?_;refine Ed ?_;refine Ed ?_;refine Ed ?_;refine Ed ?_;refine Mw (A) ?_;refine CSteps.s ?_;exact CSteps.nil) ZbM rfl ZbL ⟨rfl,rfl,rfl,rfl,trivial⟩ [.row 5 1 (CE (b++Bo L.length++(L.take k).flatMap GU++CX FX t j++CA (t j).1++CA (t j).2)),.pin []] rfl ?_;refine Go ?_;refine Am (8-(j+1)) ZbK ⟨j+1,by omega,rfl,rfl⟩ ?_;exact Ad Zcw (by(refine HpLe.cons (OwLe.row (by rw[DI,FX];simp only[List.append_assoc])) ?_);exact HpLe.cons (Aj rfl)<|HpLe.nil)
    .obtain rfl:j=8:=by omega
     refine Zfc ?_;exact Ad Zcd (by(refine HpLe.cons (OwLe.row (by rw[BS GU Q,<-List.append_assoc,<-J];rfl)) ?_);exact HpLe.cons (Aj rfl)<|HpLe.nil)
  .obtain rfl:k=L.length:=by omega
   refine Ao<|Y1<|Wm<|Wm ?_;refine Wq (Bi rfl (Aa rfl)) ?_;refine Wq Bl ?_;refine Y0<|Cf<|BZ<|Bz<|BP<|BE<|Yn<|Y1<|Wm<|Wa<|Y0<|Ci ?_
   first | refine Be (RetsA.one rfl) rfl ?_ rfl | refine AE (RetsA.one rfl) rfl ?_ rfl
   exact⟨rfl,by rw[List.take_length,EL,Bn,<-List.append_assoc];rfl⟩
theorem Ko{F:Type}{e:F->List Nat}(l:List F)(h:∀x,0<(e x).length):l.length<=(l.flatMap e).length:=CO (e:=e) (l:=l) λx _=>h x
theorem A3X(k:Cor)(h:CoW k):Wb 19 (AJ (Fm k)) (FP k):=Wb.intro λb F=>by
 have S:FP k=Bc k.n++(AN k.e++(AN k.f)):=by simp only[FP,List.append_assoc]
 rw[S]at F;simp only[List.length_append]at F;obtain⟨H,Z⟩:∃B,B=b++Bc k.n:=⟨_,rfl⟩;have U:H.length=b.length+(Bc k.n).length:=by rw[Z,List.length_append]
 have A:=ES k.n h.n b ZbK;rw[<-Z]at A;obtain⟨I,a⟩:∃B,B=H++AN k.e:=⟨_,rfl⟩;have G:I.length=H.length+(AN k.e).length:=by rw[a,List.length_append]
 have C:=Ir k.e h.e H ZbK;rw[<-a]at C;obtain⟨d,e⟩:∃B,B=I++AN k.f:=⟨_,rfl⟩;have m:d.length=I.length+(AN k.f).length:=by rw[e,List.length_append]
 have L:=Ir k.f h.f I ZbK;rw[<-e]at L;have w:b++FP k=d:=by rw[e,a,Z];simp only[FP,List.append_assoc]
 refine CP Tryz.func19 rfl (Ag Tryz.func19 ZbM ZbM) rfl λE=>?_;rw[Tryz.ntmps19];intro z;apply Y1;refine Bx ?_;refine Wa<|Y0<|Ao ?_
 refine Eq 0 5 1 (λJ=>CE (([b,H,I,d]:List (List Nat)).getD J [])) 3 (some 0) (λk=>([3,6,9]:List Nat).getD k 0) [.o 0,.q (.ptr 2 0),.q (.d (ex (.int .i64 k.n))),.t 0,.q (.ptr 2 1),.q (.d (Ip k.e)),.t 1,.q (.ptr 2 2),.q (.d (Ip k.f)),.t 2,.o 3] [[],[],[(6,1)],[(5,0),(7,2)],[],[(9,4)],[(8,3),(10,5)],[],[(12,7)],[(11,6),(13,8)],[(14,9)]] [(3,.ptr 2 0)] [(4,.own 0)] ZbM rfl ⟨rfl,trivial⟩ (λ_ h=>by cases h;rfl) (by refine CSteps.s ?_;refine Ed ?_;refine Ed ?_;refine Mw (A) ?_;refine Ed ?_;refine Ed ?_;refine Mw (C) ?_;refine Ed ?_;refine Ed ?_;refine Mw (L) ?_;refine CSteps.s ?_;exact CSteps.nil) ZbM rfl ZbL ⟨rfl,trivial⟩ [.row 5 1 (CE (d)),.pin [],.var 26 ((Fm k).map .d)] rfl ?_;refine Yn<|Ci ?_
 exact Zbh
theorem A2c(c:Clm)(h:ClW c):Wb 110 (AJ (El c)) (IS c):=Wb.intro λb F=>by
 have S:IS c=Bc c.kind++(Cr c.p++(Bc c.n++(Bc c.d++(Bc c.r++(Cg c.o++(AN c.l++(Bo c.s.length++(c.s.flatMap Bc++(EL c.b))))))))):=by simp only[IS,Bn,List.append_assoc]
 rw[S]at F;simp only[List.length_append]at F;have i:=Ko c.s Kj;obtain⟨H,g⟩:∃B,B=b++Bc c.kind:=⟨_,rfl⟩;have U:H.length=b.length+(Bc c.kind).length:=by rw[g,List.length_append]
 have A:=ES c.kind h.kind b ZbK;rw[<-g]at A;obtain⟨W,j⟩:∃B,B=H++Cr c.p:=⟨_,rfl⟩;have K:W.length=H.length+(Cr c.p).length:=by rw[j,List.length_append]
 have C:=SM c.p h.p H ZbK;rw[<-j]at C;obtain⟨R,e⟩:∃B,B=W++Bc c.n:=⟨_,rfl⟩;have N:R.length=W.length+(Bc c.n).length:=by rw[e,List.length_append]
 have L:=ES c.n h.n W ZbK;rw[<-e]at L;obtain⟨Z,o⟩:∃B,B=R++Bc c.d:=⟨_,rfl⟩;have y:Z.length=R.length+(Bc c.d).length:=by rw[o,List.length_append]
 have V:=ES c.d h.d R ZbK;rw[<-o]at V;obtain⟨a,p⟩:∃B,B=Z++Bc c.r:=⟨_,rfl⟩;have x:a.length=Z.length+(Bc c.r).length:=by rw[p,List.length_append]
 have m:=ES c.r h.r Z ZbK;rw[<-p]at m;obtain⟨f,r⟩:∃B,B=a++Cg c.o:=⟨_,rfl⟩;have T:f.length=a.length+(Cg c.o).length:=by rw[r,List.length_append]
 have z:=Uu c.o h.o a ZbK;rw[<-r]at z;obtain⟨Y,s⟩:∃B,B=f++AN c.l:=⟨_,rfl⟩;have xa:Y.length=f.length+(AN c.l).length:=by rw[s,List.length_append]
 have J:=Ir c.l h.l f ZbK;rw[<-s]at J;obtain⟨B8,t⟩:∃B,B=Y++Bo c.s.length:=⟨_,rfl⟩;have xb:B8.length=Y.length+(Bo c.s.length).length:=by rw[t,List.length_append]
 have u:=FD c.s.length ZbK Y ZbK;rw[<-t]at u;obtain⟨q,v⟩:∃B,B=B8++c.s.flatMap Bc:=⟨_,rfl⟩;have xc:q.length=B8.length+(c.s.flatMap Bc).length:=by rw[v,List.length_append]
 obtain⟨l,n⟩:∃B,B=q++EL c.b:=⟨_,rfl⟩;have xd:l.length=q.length+(EL c.b).length:=by rw[n,List.length_append]
 have M:=Vl c.b h.b q ZbK;rw[<-n]at M;have w:b++IS c=l:=by rw[n,v,t,s,r,p,o,e,j,g];simp only[IS,Bn,List.append_assoc]
 refine CP Tryz.func110 rfl (Ag Tryz.func110 ZbM ZbM) rfl λG=>?_;rw[Tryz.ntmps110];intro O;apply Y1;refine Bx ?_;refine Wa<|Y0<|Ao ?_
 refine Eq 0 5 1 (λX=>CE (([b,H,W]:List (List Nat)).getD X [])) 2 (some 0) (λk=>([3,6]:List Nat).getD k 0) [.o 0,.q (.ptr 2 0),.q (.d (ex (.int .i64 c.kind))),.t 0,.q (.ptr 2 1),.q (.d (Jh c.p)),.t 1,.o 2] [[],[],[(7,1)],[(6,0),(8,2)],[],[(10,4)],[(9,3),(11,5)],[(12,6)]] [(3,.ptr 2 0)] [(0,.own 0),(3,.ptr 2 0)] ZbM rfl ⟨rfl,trivial⟩ (λ_ h=>by cases h;rfl) (by refine CSteps.s ?_;refine Ed ?_;refine Ed ?_;refine Mw (A) ?_;refine Ed ?_;refine Ed ?_;refine Mw (C) ?_;refine CSteps.s ?_;exact CSteps.nil) ZbM rfl ZbL ⟨rfl,rfl,trivial⟩ [.row 5 1 (CE (W)),.pin [],.var 34 ((El c).map .d)] rfl ?_;refine Yn<|Ao ?_
 refine Eq 0 5 1 (λX=>CE (([W,R,Z,a,f,Y]:List (List Nat)).getD X [])) 5 (some 0) (λk=>([3,6,9,12,15]:List Nat).getD k 0) [.o 0,.q (.ptr 2 2),.q (.d (ex (.int .i64 c.n))),.t 0,.q (.ptr 2 3),.q (.d (ex (.int .i64 c.d))),.t 1,.q (.ptr 2 4),.q (.d (ex (.int .i64 c.r))),.t 2,.q (.ptr 2 5),.q (.d (DW c.o)),.t 3,.q (.ptr 2 6),.q (.d (Ip c.l)),.t 4,.o 5] [[],[],[(14,1)],[(13,0),(15,2)],[],[(17,4)],[(16,3),(18,5)],[],[(20,7)],[(19,6),(21,8)],[],[(23,10)],[(22,9),(24,11)],[],[(26,13)],[(25,12),(27,14)],[(28,15)]] [(3,.ptr 2 0)] [(0,.own 0),(3,.ptr 2 0)] ZbM rfl ⟨rfl,trivial⟩ (λ_ h=>by cases h;rfl) (by refine CSteps.s ?_;refine Ed ?_;refine Ed ?_;refine Mw (L) ?_;refine Ed ?_;refine Ed ?_;refine Mw (V) ?_;refine Ed ?_;refine Ed ?_;refine Mw (m) ?_;refine Ed ?_;refine Ed ?_;refine Mw (z) ?_;refine Ed ?_;refine Ed ?_;refine Mw (J) ?_;refine CSteps.s ?_;exact CSteps.nil) ZbM rfl ZbL ⟨rfl,rfl,trivial⟩ [.row 5 1 (CE (Y)),.pin [],.var 34 ((El c).map .d)] rfl ?_;refine Yn<|Y1<|Wm ?_;refine Wq AF ?_;refine Wq AL ?_;refine Wq (Bi rfl (Aa rfl)) ?_;refine Wq (AC (r:=((c.s.length:Nat):Int)) (ao rfl) (Aa rfl) (Aa rfl) (Ec ZbK)) ?_
 refine Ce [0] (u) rfl ZbL rfl ZbH ZbG ZbN ZbE rfl ?_;rintro _ _ ⟨rfl,rfl⟩;refine Kr ?_;refine Wa<|Y0<|Ao<|Y1<|Wa<|Y0<|AWp.block ?_
 refine Az (λP d=>∃k,k<=c.s.length/\P=c.s.length-k/\d=⟨[(0,.own 0),(3,.ptr 2 0),(5,.d (ex (.int .i64 (k:Nat))))],[.row 5 1 (CE (B8++(c.s.take k).flatMap Bc)),.pin [],.var 34 ((El c).map .d)]⟩) ?le ⟨0,by omega,rfl,rfl⟩ ?round
 case le=>exact Ad Zca ZcT
 case round=>
  rintro P _ ⟨k,E,rfl,rfl⟩;by_cases Q:k<c.s.length
  .have E:=CJ Bc Q
   have I:=ES (c.s.getD k default) (h.s _ (Cd Q)) (B8++(c.s.take k).flatMap Bc) ZbY;refine Ao<|Y1<|Wm ?_;refine Wq AF ?_;refine Wq AL ?_;refine Wq (Bi rfl (Aa rfl)) ?_;refine Wq Bj ?_;refine Y0<|Ct<|Ys<|Ao<|AWp.block<|AWp.region<|Wm ?_;refine Wq AF ?_;refine Wq AL ?_;refine Wm ?_;refine Wq (Ck (k:=k) rfl (ao rfl) (Aa rfl) (Aa rfl) rfl Q) ?_;refine Wq AO ?_
   refine Ce [0] (I) rfl ZbL rfl ZbH ZbG ZbN ZbE rfl ?_;rintro _ _ ⟨rfl,rfl⟩;refine Kr ?_;refine Wa<|AWl.nil<|Bv<|Yn<|AWp.region<|Wm ?_;refine Wq Dl ?_;refine Wa<|AWl.nil ?_
   refine Am (c.s.length-(k+1)) ZbK ⟨k+1,by omega,rfl,rfl⟩ ?_;exact Ad Zca (by exact HpLe.cons (OwLe.row (by rw[BS Bc Q,<-List.append_assoc]))<|HpLe.cons (Aj rfl)<|HpLe.cons (Af rfl)<|HpLe.nil)
  .obtain rfl:k=c.s.length:=by omega
   rw[List.take_length,<-v];refine Ao<|Y1<|Wm ?_;refine Wq AF ?_;refine Wq AL ?_;refine Wq (Bi rfl (Aa rfl)) ?_;refine Wq Bl ?_;refine Y0<|Cf<|BZ<|Bz<|BP<|BE<|Yn<|Y1<|Wm ?_;refine Wq AF ?_;refine Wq AL ?_
   refine Ce [0] (M) rfl ZbL rfl ZbH ZbG ZbN ZbE rfl ?_;rintro _ _ ⟨rfl,rfl⟩;refine Kr ?_;refine Wa<|Y0<|Ci ?_
   exact Zbh
theorem VU{e:Crt}{k:Nat}(h:k<8):CellAt (Ek e) (7+k*1) (ex (.int .i64 (e.r.l k))):=by
 rcases lt8 h with rfl | rfl | rfl | rfl | rfl | rfl | rfl | rfl<;>exact⟨(by decide:_<28),rfl⟩
theorem VT{e:Crt}{k:Nat}(h:k<8):CellAt (Ek e) (16+k*1) (KG (e.r.r k)):=by
 rcases lt8 h with rfl | rfl | rfl | rfl | rfl | rfl | rfl | rfl<;>exact⟨(by decide:_<28),rfl⟩
theorem XJ{f:Nat->RQ}(h:n<8):PartAt ((Pq f).drop (n*4)) 0 4 (Ih (f n)):=by
 have A:=HB (c:=λi=>Ih (f i)) (n:=4) (λ_=>rfl) h;have K:(FU λi=>Ih (f i)).length=32:=DL (n:=4) (λ_=>rfl);exact⟨by simp only[Pq,List.length_drop,K];omega,A.eq⟩
theorem A47(e:Crt)(h:CrW e):Wb 109 (AJ (Ek e)) (Li e):=Wb.intro λb F=>by
 have S:Li e=Bc e.n++(AN e.cof++(AN e.g++(Cg e.o++(BC e.c++(BC e.q++(BC e.s++(FL e.r.l++(FJ e.r.q++(La FJ e.r.r++(Bo e.a.length++(e.a.flatMap FX++(Bo e.sq.length++(e.sq.flatMap Jk++(Bo e.x.length++(e.x.flatMap Om++(EL e.b)))))))))))))))):=by simp only[Li,Jr,Bn,List.append_assoc]
 rw[S]at F;simp only[List.length_append]at F;have xN:=Ko e.a MT;have xO:=Ko e.sq Wu;have u:e.x.length<=(e.x.flatMap Om).length:=Ko e.x (GQ HL);obtain⟨H,xa⟩:∃B,B=b++Bc e.n:=⟨_,rfl⟩;have U:H.length=b.length+(Bc e.n).length:=by rw[xa,List.length_append]
 have A:=ES e.n h.n b ZbK;rw[<-xa]at A;obtain⟨g,xb⟩:∃B,B=H++AN e.cof:=⟨_,rfl⟩;have O:g.length=H.length+(AN e.cof).length:=by rw[xb,List.length_append]
 have C:=Ir e.cof h.cof H ZbK;rw[<-xb]at C;obtain⟨c,o⟩:∃B,B=g++AN e.g:=⟨_,rfl⟩;have X:c.length=g.length+(AN e.g).length:=by rw[o,List.length_append]
 have L:=Ir e.g h.g g ZbK;rw[<-o]at L;obtain⟨s,xf⟩:∃B,B=c++Cg e.o:=⟨_,rfl⟩;have xm:s.length=c.length+(Cg e.o).length:=by rw[xf,List.length_append]
 have V:=Uu e.o h.o c ZbK;rw[<-xf]at V;obtain⟨T,xg⟩:∃B,B=s++BC e.c:=⟨_,rfl⟩;have xl:T.length=s.length+(BC e.c).length:=by rw[xg,List.length_append]
 have m:=OU e.c h.c s ZbK;rw[<-xg]at m;obtain⟨B6,xh⟩:∃B,B=T++BC e.q:=⟨_,rfl⟩;have xo:B6.length=T.length+(BC e.q).length:=by rw[xh,List.length_append]
 have z:=OU e.q h.q T ZbK;rw[<-xh]at z;obtain⟨n,xi⟩:∃B,B=B6++BC e.s:=⟨_,rfl⟩;have xp:n.length=B6.length+(BC e.s).length:=by rw[xi,List.length_append]
 have M:=OU e.s h.s B6 ZbK;rw[<-xi]at M;obtain⟨B8,xj⟩:∃B,B=n++FL e.r.l:=⟨_,rfl⟩;have xq:B8.length=n.length+(FL e.r.l).length:=by rw[xj,List.length_append]
 obtain⟨v,xk⟩:∃B,B=B8++FJ e.r.q:=⟨_,rfl⟩;have xr:v.length=B8.length+(FJ e.r.q).length:=by rw[xk,List.length_append]
 have R:=Ua e.r.q h.r.q B8 ZbK;rw[<-xk]at R;obtain⟨xc,xe⟩:∃B,B=v++La FJ e.r.r:=⟨_,rfl⟩;have xC:xc.length=v.length+(La FJ e.r.r).length:=by rw[xe,List.length_append]
 obtain⟨x,xv⟩:∃B,B=xc++Bo e.a.length:=⟨_,rfl⟩;have xG:x.length=xc.length+(Bo e.a.length).length:=by rw[xv,List.length_append]
 have W:=FD e.a.length ZbK xc ZbK;rw[<-xv]at W;obtain⟨xs,xw⟩:∃B,B=x++e.a.flatMap FX:=⟨_,rfl⟩;have xH:xs.length=x.length+(e.a.flatMap FX).length:=by rw[xw,List.length_append]
 obtain⟨y,xx⟩:∃B,B=xs++Bo e.sq.length:=⟨_,rfl⟩;have xI:y.length=xs.length+(Bo e.sq.length).length:=by rw[xx,List.length_append]
 have a:=FD e.sq.length ZbK xs ZbK;rw[<-xx]at a;obtain⟨xt,xy⟩:∃B,B=y++e.sq.flatMap Jk:=⟨_,rfl⟩;have xJ:xt.length=y.length+(e.sq.flatMap Jk).length:=by rw[xy,List.length_append]
 obtain⟨xd,xz⟩:∃B,B=xt++Bo e.x.length:=⟨_,rfl⟩;have xK:xd.length=xt.length+(Bo e.x.length).length:=by rw[xz,List.length_append]
 have xE:=FD e.x.length ZbK xt ZbK;rw[<-xz]at xE;obtain⟨xu,xA⟩:∃B,B=xd++e.x.flatMap Om:=⟨_,rfl⟩;have xL:xu.length=xd.length+(e.x.flatMap Om).length:=by rw[xA,List.length_append]
 obtain⟨xD,xB⟩:∃B,B=xu++EL e.b:=⟨_,rfl⟩;have xM:xD.length=xu.length+(EL e.b).length:=by rw[xB,List.length_append]
 have xF:=Vl e.b h.b xu ZbK;rw[<-xB]at xF;have w:b++Li e=xD:=by rw[xB,xA,xz,xy,xx,xw,xv,xe,xk,xj,xi,xh,xg,xf,o,xb,xa];simp only[Li,Jr,Bn,List.append_assoc]
 refine CP Tryz.func109 rfl (Ag Tryz.func109 ZbM ZbM) rfl λK=>?_;rw[Tryz.ntmps109];intro Y;apply Y1;refine Bx ?_;refine Wa<|Y0<|Ao ?_
 refine Eq 0 5 1 (λl=>CE (([b,H,g,c,s]:List (List Nat)).getD l [])) 4 (some 0) (λk=>([3,6,9,12]:List Nat).getD k 0) [.o 0,.q (.ptr 2 0),.q (.d (ex (.int .i64 e.n))),.t 0,.q (.ptr 2 1),.q (.d (Ip e.cof)),.t 1,.q (.ptr 2 2),.q (.d (Ip e.g)),.t 2,.q (.ptr 2 3),.q (.d (DW e.o)),.t 3,.o 4] [[],[],[(12,1)],[(11,0),(13,2)],[],[(15,4)],[(14,3),(16,5)],[],[(18,7)],[(17,6),(19,8)],[],[(21,10)],[(20,9),(22,11)],[(23,12)]] [(3,.ptr 2 0)] [(0,.own 0),(3,.ptr 2 0)] ZbM rfl ⟨rfl,trivial⟩ (λ_ h=>by cases h;rfl) (by refine CSteps.s ?_;refine Ed ?_;refine Ed ?_;refine Mw (A) ?_;refine Ed ?_;refine Ed ?_;refine Mw (C) ?_;refine Ed ?_;refine Ed ?_;refine Mw (L) ?_;refine Ed ?_;refine Ed ?_;refine Mw (V) ?_;refine CSteps.s ?_;exact CSteps.nil) ZbM rfl ZbL ⟨rfl,rfl,trivial⟩ [.row 5 1 (CE (s)),.pin [],.var 46 ((Ek e).map .d)] rfl ?_;refine Yn<|Ao ?_
 refine Eq 0 5 1 (λl=>CE (([s,T,B6,n]:List (List Nat)).getD l [])) 3 (some 0) (λk=>([3,6,9]:List Nat).getD k 0) [.o 0,.q (.ptr 2 4),.q (.d (Wc e.c)),.t 0,.q (.ptr 2 5),.q (.d (Wc e.q)),.t 1,.q (.ptr 2 6),.q (.d (Wc e.s)),.t 2,.o 3] [[],[],[(25,1)],[(24,0),(26,2)],[],[(28,4)],[(27,3),(29,5)],[],[(31,7)],[(30,6),(32,8)],[(33,9)]] [(3,.ptr 2 0)] [(0,.own 0),(3,.ptr 2 0)] ZbM rfl ⟨rfl,trivial⟩ (λ_ h=>by cases h;rfl) (by refine CSteps.s ?_;refine Ed ?_;refine Ed ?_;refine Mw (m) ?_;refine Ed ?_;refine Ed ?_;refine Mw (z) ?_;refine Ed ?_;refine Ed ?_;refine Mw (M) ?_;refine CSteps.s ?_;exact CSteps.nil) ZbM rfl ZbL ⟨rfl,rfl,trivial⟩ [.row 5 1 (CE (n)),.pin [],.var 46 ((Ek e).map .d)] rfl ?_;refine Yn<|Ao<|Y1<|Wa<|Y0<|AWp.block ?_
 refine Az (λP d=>∃k,k<=8/\P=8-k/\d=⟨[(0,.own 0),(3,.ptr 2 0),(5,.d (ex (.int .i64 (k:Nat))))],[.row 5 1 (CE (n++CX (Bc) e.r.l k)),.pin [],.var 46 ((Ek e).map .d)]⟩) ?le ⟨0,by omega,rfl,rfl⟩ ?round
 case le=>exact Ad Zca ZcL
 case round=>
  rintro P _ ⟨k,E,rfl,rfl⟩;by_cases Q:k<8
  .have E:=Fh (Bc) e.r.l Q
   have r:(CX (Bc) e.r.l 8).length=(FL e.r.l).length:=rfl;have I:=ES (e.r.l k) (h.r.l k Q) (n++CX (Bc) e.r.l k) ZbY;refine Ao<|Y1<|Wm ?_;refine Wq Bj ?_;refine Y0<|Ct<|Ys<|Ao<|AWp.block<|AWp.region<|Wm<|Wm ?_;refine Wq AF ?_;refine Wq AF ?_;refine Wq (Lp (k:=k) (ao rfl) (ao rfl) (Aa rfl) (Aa rfl) Q) ?_;refine Wq (Kz (ao rfl) rfl (Aa rfl) rfl (VU Q)) ?_
   exact Zbi
  .obtain rfl:k=8:=by omega
   rw[show n++CX (Bc) e.r.l 8=B8 from xj.symm];refine Ao<|Y1<|Wm ?_;refine Wq Bl ?_;refine Y0<|Cf<|BZ<|Bz<|BP<|BE<|Yn<|Y1<|Wm ?_;refine Wq AF ?_;refine Wq AF ?_;refine Wq AL ?_
   refine Ce [0] (R) rfl ZbL rfl ZbH ZbG ZbN ZbE rfl ?_;rintro _ _ ⟨rfl,rfl⟩;refine Kr ?_;refine AW (σ':=⟨[(3,.ptr 2 0),(49,.own 0)],[.row 5 1 (CE (v)),.pin [],.var 46 ((Ek e).map .d)]⟩) ?_ ?_
   .exact Ad Zda ZcU
   refine Wa<|Y0<|Ao<|Y1<|Wa<|Y0<|AWp.block ?_
   refine Az (λP d=>∃k,k<=8/\P=8-k/\d=⟨[(0,.own 0),(3,.ptr 2 0),(6,.d (ex (.int .i64 (k:Nat))))],[.row 5 1 (CE (v++CX (FJ) e.r.r k)),.pin [],.var 46 ((Ek e).map .d)]⟩) ?le ⟨0,by omega,rfl,rfl⟩ ?round
   case le=>exact Ad Zca ZcL
   case round=>
    rintro P _ ⟨k,E,rfl,rfl⟩;by_cases Q:k<8
    .have E:=Fh (FJ) e.r.r Q
     have r:(CX (FJ) e.r.r 8).length=(La FJ e.r.r).length:=rfl;have I:=Ua (e.r.r k) (h.r.r k Q) (v++CX (FJ) e.r.r k) ZbY;refine Ao<|Y1<|Wm ?_;refine Wq Bj ?_;refine Y0<|Ct<|Ys<|Ao<|AWp.block<|AWp.region<|Wm<|Wm ?_;refine Wq AF ?_;refine Wq AF ?_;refine Wq (Lp (k:=k) (ao rfl) (ao rfl) (Aa rfl) (Aa rfl) Q) ?_;refine Wq (Kz (ao rfl) rfl (Aa rfl) rfl (VT Q)) ?_
     exact Zbi
    .obtain rfl:k=8:=by omega
     rw[show v++CX (FJ) e.r.r 8=xc from xe.symm];refine Ao<|Y1<|Wm ?_;refine Wq Bl ?_;refine Y0<|Cf<|BZ<|Bz<|BP<|BE<|Yn<|Y1<|Wm ?_;refine Wq AF ?_;refine Wq AL ?_;refine Wq (Bi rfl (Aa rfl)) ?_;refine Wq (AC (r:=((e.a.length:Nat):Int)) (ao rfl) (Aa rfl) (Aa rfl) (Ec ZbK)) ?_
     refine Ce [0] (W) rfl ZbL rfl ZbH ZbG ZbN ZbE rfl ?_;rintro _ _ ⟨rfl,rfl⟩;refine Kr ?_;refine AW (σ':=⟨[(3,.ptr 2 0),(66,.own 0)],[.row 5 1 (CE (x)),.pin [],.var 46 ((Ek e).map .d)]⟩) ?_ ?_
     .exact Ad Zda ZcU
     refine Wa<|Y0<|Ao<|Y1<|Wa<|Y0<|AWp.block ?_
     refine Az (λP d=>∃k,k<=e.a.length/\P=e.a.length-k/\d=⟨[(0,.own 0),(3,.ptr 2 0),(7,.d (ex (.int .i64 (k:Nat))))],[.row 5 1 (CE (x++(e.a.take k).flatMap FX)),.pin [],.var 46 ((Ek e).map .d)]⟩) ?le ⟨0,by omega,rfl,rfl⟩ ?round
     case le=>exact Ad Zca ZcT
     case round=>
      rintro P _ ⟨k,E,rfl,rfl⟩;by_cases Q:k<e.a.length
      .have E:=CJ FX Q
       obtain⟨t,J⟩:∃t,t=e.a.getD k default:=⟨_,rfl⟩;have N:=h.a _ (Cd Q);rw[<-J]at E N;have i:(FX t).length=(CA t.1).length+(CA t.2).length:=by rw[FX,List.length_append]
       have g0:=Ef t.1 N.1 (x++(e.a.take k).flatMap FX) ZbY;have f:=Ef t.2 N.2 (x++(e.a.take k).flatMap FX++CA t.1) ZbY;refine Ao<|Y1<|Wm ?_;refine Wq AF ?_;refine Wq AL ?_;refine Wq (Bi rfl (Aa rfl)) ?_;refine Wq Bj ?_;refine Y0<|Ct<|Ys<|Ao<|AWp.block ?_
       refine Eq 0 5 1 (λl=>CE (([x++(e.a.take k).flatMap FX,x++(e.a.take k).flatMap FX++CA t.1,x++(e.a.take k).flatMap FX++CA t.1++CA t.2]:List (List Nat)).getD l [])) 2 (some 0) (λk=>([7,14]:List Nat).getD k 0) [.o 0,.q (.ptr 2 24),.q (.d (A00 e.a)),.q (.d (ex (.int .i64 (k:Nat)))),.q (.d (Fb 129 (Lw t))),.q (.d (Fb 129 ((Lw t).drop 0))),.q (.d (AJ (Ih t.1))),.t 0,.q (.ptr 2 24),.q (.d (A00 e.a)),.q (.d (ex (.int .i64 (k:Nat)))),.q (.d (Fb 129 (Lw t))),.q (.d (Fb 129 ((Lw t).drop 4))),.q (.d (AJ (Ih t.2))),.t 1,.o 2] [[],[],[(75,1)],[],[(76,2),(77,3)],[(78,4)],[(79,5)],[(74,0),(80,6)],[],[(82,8)],[],[(83,9),(84,10)],[(85,11)],[(86,12)],[(81,7),(87,13)],[(88,14)]] [(3,.ptr 2 0),(7,.d (ex (.int .i64 (k:Nat))))] [(0,.own 0),(3,.ptr 2 0),(7,.d (ex (.int .i64 (k:Nat))))] ZbM rfl ⟨rfl,rfl,trivial⟩ (λ_ h=>by cases h;rfl) ZcB ZbM rfl ZbL ⟨rfl,rfl,rfl,trivial⟩ [.row 5 1 (CE (x++(e.a.take k).flatMap FX++CA t.1++CA t.2)),.pin [],.var 46 ((Ek e).map .d)] rfl ?_;refine Bv<|Yn<|AWp.region<|Wm ?_;refine Wq Dl ?_;refine Wa<|AWl.nil ?_
       refine Am (e.a.length-(k+1)) ZbK ⟨k+1,by omega,rfl,rfl⟩ ?_;exact Ad Zca (by(refine HpLe.cons (OwLe.row (by rw[BS FX Q,<-J,FX];simp only[List.append_assoc])) ?_);exact HpLe.cons (Aj rfl)<|HpLe.cons (Af rfl)<|HpLe.nil)
      .obtain rfl:k=e.a.length:=by omega
       rw[List.take_length,<-xw];refine Ao<|Y1<|Wm ?_;refine Wq AF ?_;refine Wq AL ?_;refine Wq (Bi rfl (Aa rfl)) ?_;refine Wq Bl ?_;refine Y0<|Cf<|BZ<|Bz<|BP<|BE<|Yn<|Y1<|Wm ?_;refine Wq AF ?_;refine Wq AL ?_;refine Wq (Bi rfl (Aa rfl)) ?_;refine Wq (AC (r:=((e.sq.length:Nat):Int)) (ao rfl) (Aa rfl) (Aa rfl) (Ec ZbK)) ?_
       refine Ce [0] (a) rfl ZbL rfl ZbH ZbG ZbN ZbE rfl ?_;rintro _ _ ⟨rfl,rfl⟩;refine Kr ?_;refine AW (σ':=⟨[(3,.ptr 2 0),(94,.own 0)],[.row 5 1 (CE (y)),.pin [],.var 46 ((Ek e).map .d)]⟩) ?_ ?_
       .exact Ad Zda ZcU
       refine Wa<|Y0<|Ao<|Y1<|Wa<|Y0<|AWp.block ?_
       refine Az (λP d=>∃k,k<=e.sq.length/\P=e.sq.length-k/\d=⟨[(0,.own 0),(3,.ptr 2 0),(8,.d (ex (.int .i64 (k:Nat))))],[.row 5 1 (CE (y++(e.sq.take k).flatMap Jk)),.pin [],.var 46 ((Ek e).map .d)]⟩) ?le ⟨0,by omega,rfl,rfl⟩ ?round
       case le=>exact Ad Zca ZcT
       case round=>
        rintro P _ ⟨k,E,rfl,rfl⟩;by_cases Q:k<e.sq.length
        .have E:=CJ Jk Q
         obtain⟨t,J⟩:∃t,t=e.sq.getD k default:=⟨_,rfl⟩;have N:=h.sq _ (Cd Q);rw[<-J]at E N;have i:(Jk t).length=(CA t.1).length+(Cr t.2).length:=by rw[Jk,List.length_append]
         have g0:=Ef t.1 N.1 (y++(e.sq.take k).flatMap Jk) ZbY;have f:=SM t.2 N.2 (y++(e.sq.take k).flatMap Jk++CA t.1) ZbY;refine Ao<|Y1<|Wm ?_;refine Wq AF ?_;refine Wq AL ?_;refine Wq (Bi rfl (Aa rfl)) ?_;refine Wq Bj ?_;refine Y0<|Ct<|Ys<|Ao<|AWp.block ?_
         refine Eq 0 5 1 (λl=>CE (([y++(e.sq.take k).flatMap Jk,y++(e.sq.take k).flatMap Jk++CA t.1,y++(e.sq.take k).flatMap Jk++CA t.1++Cr t.2]:List (List Nat)).getD l [])) 2 (some 0) (λk=>([7,14]:List Nat).getD k 0) [.o 0,.q (.ptr 2 25),.q (.d (ZA e.sq)),.q (.d (ex (.int .i64 (k:Nat)))),.q (.d (Fb 184 (KV t))),.q (.d (Fb 184 ((KV t).drop 0))),.q (.d (AJ (Ih t.1))),.t 0,.q (.ptr 2 25),.q (.d (ZA e.sq)),.q (.d (ex (.int .i64 (k:Nat)))),.q (.d (Fb 184 (KV t))),.q (.d (Fb 184 ((KV t).drop 4))),.q (.d (Jh t.2)),.t 1,.o 2] [[],[],[(103,1)],[],[(104,2),(105,3)],[(106,4)],[(107,5)],[(102,0),(108,6)],[],[(110,8)],[],[(111,9),(112,10)],[(113,11)],[(114,12)],[(109,7),(115,13)],[(116,14)]] [(3,.ptr 2 0),(8,.d (ex (.int .i64 (k:Nat))))] [(0,.own 0),(3,.ptr 2 0),(8,.d (ex (.int .i64 (k:Nat))))] ZbM rfl ⟨rfl,rfl,trivial⟩ (λ_ h=>by cases h;rfl) ZcB ZbM rfl ZbL ⟨rfl,rfl,rfl,trivial⟩ [.row 5 1 (CE (y++(e.sq.take k).flatMap Jk++CA t.1++Cr t.2)),.pin [],.var 46 ((Ek e).map .d)] rfl ?_;refine Bv<|Yn<|AWp.region<|Wm ?_;refine Wq Dl ?_;refine Wa<|AWl.nil ?_
         refine Am (e.sq.length-(k+1)) ZbK ⟨k+1,by omega,rfl,rfl⟩ ?_;exact Ad Zca (by(refine HpLe.cons (OwLe.row (by rw[BS Jk Q,<-J,Jk];simp only[List.append_assoc])) ?_);exact HpLe.cons (Aj rfl)<|HpLe.cons (Af rfl)<|HpLe.nil)
        .obtain rfl:k=e.sq.length:=by omega
         rw[List.take_length,<-xy];refine Ao<|Y1<|Wm ?_;refine Wq AF ?_;refine Wq AL ?_;refine Wq (Bi rfl (Aa rfl)) ?_;refine Wq Bl ?_;refine Y0<|Cf<|BZ<|Bz<|BP<|BE<|Yn<|Y1<|Wm ?_;refine Wq AF ?_;refine Wq AL ?_;refine Wq (Bi rfl (Aa rfl)) ?_;refine Wq (AC (r:=((e.x.length:Nat):Int)) (ao rfl) (Aa rfl) (Aa rfl) (Ec ZbK)) ?_
         refine Ce [0] (xE) rfl ZbL rfl ZbH ZbG ZbN ZbE rfl ?_;rintro _ _ ⟨rfl,rfl⟩;refine Kr ?_;refine AW (σ':=⟨[(3,.ptr 2 0),(122,.own 0)],[.row 5 1 (CE (xd)),.pin [],.var 46 ((Ek e).map .d)]⟩) ?_ ?_
         .exact Ad Zda ZcU
         refine Wa<|Y0<|Ao<|Y1<|Wa<|Y0<|AWp.block ?_
         refine Az (λP d=>∃k,k<=e.x.length/\P=e.x.length-k/\d=⟨[(0,.own 0),(3,.ptr 2 0),(9,.d (ex (.int .i64 (k:Nat))))],[.row 5 1 (CE (xd++(e.x.take k).flatMap Om)),.pin [],.var 46 ((Ek e).map .d)]⟩) ?le ⟨0,by omega,rfl,rfl⟩ ?round
         case le=>exact Ad Zca ZcT
         case round=>
          rintro P _ ⟨k,E,rfl,rfl⟩;by_cases Q:k<e.x.length
          .have E:=CJ Om Q
           obtain⟨t,J⟩:∃t,t=e.x.getD k default:=⟨_,rfl⟩;have N:=h.x _ (Cd Q);rw[<-J]at E N;have Z:(Om t).length=(CX CA t 8).length:=rfl;refine Ao<|Y1<|Wm ?_;refine Wq AF ?_;refine Wq AL ?_;refine Wq (Bi rfl (Aa rfl)) ?_;refine Wq Bj ?_;refine Y0<|Ct<|Ys<|Ao<|AWp.block<|Y1<|Wa<|Y0<|AWp.block ?_
           refine Az (λP d=>∃j,j<=8/\P=8-j/\d=⟨[(0,.own 0),(3,.ptr 2 0),(9,.d (ex (.int .i64 (k:Nat)))),(10,.d (ex (.int .i64 (j:Nat))))],[.row 5 1 (CE (xd++(e.x.take k).flatMap Om++CX CA t j)),.pin [],.var 46 ((Ek e).map .d)]⟩) ?lej ⟨0,by omega,rfl,rfl⟩ ?roundj
           case lej=>exact Ad Zej ZcL
           case roundj=>
            rintro P _ ⟨j,G,rfl,rfl⟩;by_cases q:j<8
            .have p:=Fh CA t q
             have xn:=Ef (t j) (N j q) (xd++(e.x.take k).flatMap Om++CX CA t j) ZbY;refine Ao<|Y1<|Wm ?_;refine Wq Bj ?_;refine Y0<|Ct<|Ys<|Ao<|AWp.block<|AWp.region<|Wm ?_;refine Wq AF ?_;refine Wq AL ?_;refine Wm<|Wm ?_;refine Wq (HA (k:=k) rfl (ao rfl) (Aa rfl) (Aa rfl) rfl Q J) ?_;refine Wq (JX (k:=j) (ao rfl) (ao rfl) (Aa rfl) (Aa rfl) q) ?_;refine Wq (TI (ao rfl) (Aa rfl) rfl (XJ q)) ?_
             refine Ce [0] (xn) rfl ZbL rfl ZbH ZbG ZbN ZbE rfl ?_;rintro _ _ ⟨rfl,rfl⟩;refine Kr ?_;refine Wa<|AWl.nil<|Bv<|Yn<|AWp.region<|Wm ?_;refine Wq Dl ?_;refine Wa<|AWl.nil ?_
             refine Am (8-(j+1)) ZbK ⟨j+1,by omega,rfl,rfl⟩ ?_;exact Ad Zej ZdU
            .obtain rfl:j=8:=by omega
             refine Ao<|Y1<|Wm ?_;refine Wq Bl ?_;refine Y0<|Cf<|BZ<|Bz<|BP<|BE<|Bv<|Yn<|AWp.region<|Wm ?_;refine Wq Dl ?_;refine Wa<|AWl.nil ?_
             refine Am (e.x.length-(k+1)) ZbK ⟨k+1,by omega,rfl,rfl⟩ ?_;exact Ad Zca (by(refine HpLe.cons (OwLe.row (by rw[BS Om Q,<-J,<-List.append_assoc];rfl)) ?_);exact HpLe.cons (Aj rfl)<|HpLe.cons (Af rfl)<|HpLe.nil)
          .obtain rfl:k=e.x.length:=by omega
           rw[List.take_length,<-xA];refine Ao<|Y1<|Wm ?_;refine Wq AF ?_;refine Wq AL ?_;refine Wq (Bi rfl (Aa rfl)) ?_;refine Wq Bl ?_;refine Y0<|Cf<|BZ<|Bz<|BP<|BE<|Yn<|Y1<|Wm ?_;refine Wq AF ?_;refine Wq AL ?_
           refine Ce [0] (xF) rfl ZbL rfl ZbH ZbG ZbN ZbE rfl ?_;rintro _ _ ⟨rfl,rfl⟩;refine Kr ?_;refine Wa<|Y0<|Ci ?_
           exact Zbh
theorem YU(f:Fct)(h:FW f)(K:(FO f).length<=1000000000000):Abs Tryz.prog 47 [AJ (Fa f)] (FR 5 (FO f)):=by
 simp only[FO,List.length_append]at K;have g:=A3X f.k h.k [] Zhz;have A:=A2c f.c h.c (FP f.k) ZbK;have B:=A47 f.e h.e (FP f.k++IS f.c) ZdC;refine Ab Tryz.func47 λC=>?_;rw[Tryz.ntmps47];apply Y1;refine Bx ?_;refine Wa<|Y0<|Ao ?_
 refine A0Q 5 1 rfl rfl rfl ?_;refine Eq 1 5 1 (λL=>CE (([[],[],FP f.k,FP f.k++IS f.c,FP f.k++IS f.c++Li f.e]:List (List Nat)).getD L [])) 4 none (λk=>([0,3,6,9]:List Nat).getD k 0) [.t 0,.q (.ptr 0 0),.q (.d (AJ (Fm f.k))),.t 1,.q (.ptr 0 3),.q (.d (AJ (El f.c))),.t 2,.q (.ptr 0 12),.q (.d (AJ (Ek f.e))),.t 3,.o 4] [[],[],[(4,1)],[(3,0),(5,2)],[],[(7,4)],[(6,3),(8,5)],[],[(10,7)],[(9,6),(11,8)],[(12,9)]] [(1,.ptr 0 0)] [(2,.own 1)] ZbM rfl ⟨rfl,trivial⟩ (λ_ h=>by cases h) (by refine CSteps.m (Aa rfl) (Aa rfl) rfl rfl rfl rfl ?_;refine Ed ?_;refine Ed ?_;refine Mw (g) ?_;refine Ed ?_;refine Ed ?_;refine Mw (A) ?_;refine Ed ?_;refine Ed ?_;refine Mw (B) ?_;refine CSteps.s ?_;exact CSteps.nil) ZbM rfl ZbL ⟨rfl,trivial⟩ [.var 48 ((Fa f).map .d),.row 5 1 (CE (FP f.k++IS f.c++Li f.e))] rfl ?_;exact Zfi
theorem A0K(f g:Fct)(A:FW f)(I:FW g)(j:(FO f).length<=1000000000000)(k:(FO g).length<=1000000000000):Abs Tryz.prog 13 [AJ (Fa f),AJ (Fa g)] (ex (.bool (decide (FO f=FO g)))):=by
 have C:=YU f A j;have a:=YU g I k;obtain⟨⟨n,e,p⟩,c,x⟩:=f;obtain⟨⟨Y,G,b⟩,E,F⟩:=g;refine Ab Tryz.func13 λB=>?_;rw[Tryz.ntmps13];refine Go ?_;refine Dy 7 ?_;refine Cw ?_;refine⟨_,HStep.q rfl (GB (l:=FO ⟨⟨n,e,p⟩,c,x⟩) rfl (Aa rfl) (Aa rfl) (Aa rfl)),?_⟩;refine Cw ?_;refine Xq (GB (l:=FO ⟨⟨Y,G,b⟩,E,F⟩) rfl (Aa rfl) (Aa rfl) (Aa rfl)) ?_;refine⟨_,HStep.q rfl (A2F (b:=FO ⟨⟨n,e,p⟩,c,x⟩) (c:=FO ⟨⟨Y,G,b⟩,E,F⟩) rfl rfl (Tf _) (Tf _)),?_⟩;exact Zgj
end Go.Proofs.YtcikkglcoeedlaaGreat
