/- Part 27 of the proof of claimClashes_holds. No condition. -/
import Derived.Test.YtcikkglcoeedlaaGreatCx19
import Derived.Test.YtcikkglcoeedlaaGreatCx20
import Derived.Test.YtcikkglcoeedlaaGreatCx22
import Derived.Test.YtcikkglcoeedlaaGreatCx23
import Derived.Test.YtcikkglcoeedlaaGreatCx24
import Derived.Test.YtcikkglcoeedlaaGreatCx25
import Derived.Test.YtcikkglcoeedlaaGreatCx26
set_option linter.unusedSimpArgs false
set_option linter.unusedVariables false
set_option maxRecDepth 100000
set_option maxHeartbeats 4000000
namespace Go.Proofs.YtcikkglcoeedlaaGreat
open Go.RowKit
variable{vG:Array Edge}{vn:Code}{vl:Exit->AS->Prop}{s vq:GS}{i:IntKind}{vp up:List (List D)}{vd:List (Nat×AV)}{o:List AV}{c:List D}{l:List Nat}{H vw:List Ow}{n b T m e k va vo uk:Nat}{x y:Operand}{vv:Operand->AV}{vS:Option (Nat×Bool)}{vA:Option Tmp}{P:Program}{vF:String}{j:Type}{d:TypeDesc}{t U:TypeId}{z v ui:Value}
def RowR(T q:Nat)(P:List (List D))(s:GS)(v:Value):Prop:=∃f:List Value,s.w.ownsRow 0 T q v P.length f/\T≠335/\0<q/\(∀b,Dc v=some b->∀k,s.S b k↔k<P.length*q)/\∀k,k<P.length->(P.getD k []).length=q/\∀j,j<q->∃u,f[k*q+j]? = some u/\u.oneCell'=true/\(Df (P.getD k []) j).rel s u
theorem RowR.lt{T sz:Nat}{v:Value}(h:RowR T sz vp s v){b:Nat}(E:Dc v=some b):b<s.w.heap.size:=by
 obtain⟨f,⟨_,A⟩,_⟩:=h;rcases A with⟨d,_⟩ | ⟨g,cap,cur,d,e2,e3,e4⟩
 .rw [d]at E;cases E
 .rw [d]at E;cases E;exact Bj e3
theorem RowR.keep{T sz:Nat}{v:Value}(h:RowR T sz vp s v)(G:GS.Chg s vq)(E:∀b,Dc v=some b->vq.w.heap[b]? = s.w.heap[b]? /\ ∀k,vq.S b k↔s.S b k):RowR T sz vp vq v:=by
 obtain⟨f,⟨A,B⟩,I,V,m,y⟩:=h;refine⟨f,⟨A,?_⟩,I,V,λb e k=>((E b e).2 k).trans (m b e k),λk C=>⟨(y k C).1,λj i=>?_⟩⟩
 .rcases B with B | ⟨g,cap,cur,e1,e2,e3,e4⟩
  .exact .inl B
  .exact ZhR
 .obtain ⟨u,F,R,n⟩:=(y k C).2 j i
  exact⟨u,F,R,(Df _ j).st n G⟩
def Qr(v:Value)(T q:Nat)(P:List (List D)):OD:=⟨λs _=>RowR T q P s v,λ_ _ b=>Dc v=some b,λh E=>RowR.lt h E,λh G E=>⟨RowR.keep h G E,λ_ h=>h⟩⟩
theorem RowR.rel{T q:Nat}{v:Value}(h:RowR T q vp s v):(slD T q vp).rel s v:=by
 refine Ev (hp:=[.row T q vp]) (av:=.own 0) (ρ:=λ_=>v) (base:=0) (λi o n=>?_) ⟨Nat.zero_lt_one,rfl⟩ rfl
 match i,n with
 |0,n=>cases n;exact h
theorem AVle.rows{hp:List Ow}{m id T sz:Nat}{v:Value}{rows:List (List D)}(A:hp[id]? = some (.obj (Qr v T sz rows))):AVle hp m (.d (ex v)) (.d (slD T sz rows)):=λb S s u i M=>by
 have M:u=v:=M;rw[M];exact RowR.rel (i id _ A)
theorem KO{s0:An}(T q:Nat)(C:T≠335)(g:0<q)(u:Fk H (.obj (Qr (.slice none 0 0) T q []))=some vw)(k:AWp P s0 n vn vl ⟨vd,vw⟩):AWp P s0 n vn vl ⟨vd,H⟩:=by
 rw[Ex u]at k;refine⟨λa w ⟨s,S,V,A⟩=>?_⟩;have:=A.new (GS.Le.refl s) (dst:=none) (v:=undef) (u:=undef) (r:=.d Cw) (ow:=.obj (Qr (.slice none 0 0) T q [])) (λd W=>by cases W) trivial ⟨[],⟨by simp,.inl ⟨rfl,rfl⟩⟩,C,g,λb E=>(by cases E),λk B=>absurd B ZbK⟩ (λb E=>by cases E);exact Zhy
theorem MG{s0:An}(id T q:Nat)(B:List (List D))(C:H[id]? = some (.row T q B))(k:∀v,AWp P s0 n vn vl ⟨vd.map λp=>(p.1,down id (ex v) p.2),(H.map (Ow.mapA (down id (ex v)))).set id (.obj (Qr v T q B))⟩):AWp P s0 n vn vl ⟨vd,H⟩:=by
 refine⟨λa w ⟨s,S,V,u⟩=>(k (S id)).run a w ⟨s,S,V,?_⟩⟩
 exact u.upd (s':=s) u.le u.ok (GS.Chg.refl s) (id:=id) (o':=.obj (Qr (S id) T q B)) (ρ':=S) (f:=down id (ex (S id))) C (λb _ _=>⟨rfl,λ_=>Iff.rfl⟩) (λ_ _=>rfl) (show RowR T q B s (S id)from u.hp id _ C) (λb E=>.inl E) λA v K=>ZaZ
def RG(id:Nat):AV->AV
 |.d x=>.d x
 |.ptr i off=>bif Nat.beq i id then .d Cw else .ptr i off
 |.own i=>bif Nat.beq i id then .d Cw else .own i
 |.fn f M=>bif M.contains id then .d Cw else .fn f M
def AV.ni(id:Nat):AV->Bool
 |.d _=>true
 |.ptr i _=>!Nat.beq i id
 |.own i=>!Nat.beq i id
 |.fn _ M=>!M.contains id
theorem Va:∀{H:AV},H.ni n=true->RG n H=H
 |.d _,_=>rfl
 |.ptr i _,h=>Zba
 |.own i,h=>Zba
 |.fn _ M,h=>by
  have h:(!M.contains n)=true:=h;have h:M.contains n=false:=by simpa using h
  simp only[RG,h,cond_false]
theorem A2p{s0:An}{o:Oper}{a:Act}{X:Nat->Value}(xa:o.op=.call { callee:=.builtin .append,args:=#[x,y],argTypes:=#[b,b] })(hst:StI s0 n ⟨vd,H⟩ a s X)(hh:H[va]? = some (.obj (Qr ui T e vp)))(hF:vd.map (λp=>(p.1,RG va p.2))=vd)(hM:H.map (Ow.mapA (RG va))=H)(q:a.eval x=ui)(S:(slD m e up).rel s (a.eval y))(R:Tab P b (.slice T) vo uk v)(hT:Tab P T d e k z)(xn:z.cells.size=e)(xj:(vp.length+up.length)*k<=140737488355328)(xm:vp.length+up.length<=4611686018427387904) :
  RegG.OpStep P o a.eval s λu l=>∃xb,StI s0 n ⟨vd,H.set va (.row T e (vp++up))⟩ a l xb/\AVr H.length xb l (.own va) u:=by
 have xq:RowR T e vp s ui:=hst.hp va _ hh;obtain⟨xs,I,M,Y,J,h6⟩:=xq;obtain⟨A,c,U,h7,h8,h9⟩:=S;have xf:va<H.length:=BV hh
 have xw:∀(v':Value) (l:GS) (xt:List Value),(execOp a.eval o).run P s.w=.ok (.value v') l.w->GS.LeX s0.mine s0.g l->l.Ok->GS.Chg s l->l.w.ownsRow 0 T e v' (vp.length+up.length) xt->(∀uk,Dc v'=some uk->∀E,l.S uk E↔E<(vp.length+up.length)*e) ->
   (∀uk,uk<s.w.heap.size->Dc ui≠some uk->l.w.heap[uk]? = s.w.heap[uk]? /\ ∀E,l.S uk E↔s.S uk E)->(∀uk,Dc v'=some uk->Dc ui=some uk\/s.w.heap.size<=uk) ->
   (∀E,E<(vp++up).length->((vp++up).getD E []).length=e/\∀j,j<e->∃u,xt[E*e+j]? = some u/\u.oneCell'=true/\(Df ((vp++up).getD E []) j).rel l u) ->
   RegG.OpStep P o a.eval s λu l=>∃xb,StI s0 n ⟨vd,H.set va (.row T e (vp++up))⟩ a l xb/\AVr H.length xb l (.own va) u:=by
  intro v' l xt xe q1 q2 q3 q4 q5 q6 q7 q8;have Q:(vp++up).length=vp.length+up.length:=List.length_append
  have xk:=hst.upd (s':=l) (o':=.row T e (vp++up)) (ρ':=λi=>if i=va then v' else X i) (f:=RG va) q1 q2 q3 hh q6 (λj w=>if_neg w)
   ⟨xt, by simp only [if_pos]; rw [Q]; exact q4, M, Y, fun uk L E => by simp only [if_pos] at L; rw [Q]; exact q5 uk L E, q8⟩ (fun uk L => by replace L : Dc (if va = va then v' else X va) = some uk := L; rw [if_pos rfl] at L; exact q7 uk L) fun av u xg => by
    cases av with
    |d F=>exact F.st xg q3
    |ptr i off=>
     obtain⟨p1,bb,p2,p3⟩:=xg;show AVr H.length _ l (bif Nat.beq i va then .d Cw else .ptr i off) u
     cases L:Nat.beq i va with
     |true=>trivial
     |false=>
      have G:i≠va:=Nat.ne_of_beq_eq_false L;refine⟨p1,bb,?_,p3⟩;show(if i=va then v' else X i)=_;rw[if_neg G];exact p2
    |own j=>
     obtain⟨p1,p2⟩:=xg;show AVr H.length _ l (bif Nat.beq j va then .d Cw else .own j) u
     cases L:Nat.beq j va with
     |true=>trivial
     |false=>
      have G:j≠va:=Nat.ne_of_beq_eq_false L;exact⟨p1,p2.trans (if_neg G).symm⟩
    |fn f xc=>
     obtain⟨p1,p2⟩:=xg;show AVr H.length _ l (bif xc.contains va then .d Cw else .fn f xc) u
     cases L:xc.contains va with
     |true=>trivial
     |false=>
      have t:va∉xc:=λh=>by rw[List.contains_iff_mem.2 h]at L;cases L
      exact⟨p1,by rw[p2,List.map_congr_left λi O=>(if_neg λG=>t (by rw[<-G];exact O):(if i=va then v' else X i)=X i)]⟩
  have xl:StI s0 n ⟨vd,H.set va (.row T e (vp++up))⟩ a l (λi=>if i=va then v' else X i):=by
   have:=xk;simp only[hF,hM]at this;exact this
  exact JK xe l rfl ⟨_,xl,xf,(if_pos rfl).symm⟩
 have xu:∀v' V,(Builtin.append_ #[b,b] o.type #[ui,a.eval y]).run P s.w=.ok v' V->(execOp a.eval o).run P s.w=.ok (.value v') V:=λv' V Z=>by
  simp only[execOp,xa,resolve,invoke,builtin,Sem.run_bind,Sem.run_pure,Result.andThen_ok,List.map_toArray,List.map_cons,List.map_nil,q,Z]
 rcases Nat.eq_zero_or_pos up.length with r | r
 .obtain rfl:up=[]:=List.eq_nil_of_length_eq_zero r
  obtain⟨i,O,hz,xo,xp⟩:=hT.info
  have xx:∃B N C,ui=.slice B N C/\N<=C:=by
   rcases I.2 with⟨w1,_⟩ | ⟨g,cap,cur,w1,_,_,w2,_⟩
   .exact ⟨none,0,0,w1,Nat.le_refl _⟩
   .exact ⟨_,_,_,w1,w2⟩
  obtain⟨B,N,C,w1,w2⟩:=xx
  have Z:(Builtin.append_ #[b,b] o.type #[ui,a.eval y]).run P s.w=.ok ui s.w:=by
   rw[U,w1]
   cases A with
   |none=>exact run_append_nothing s.w _ _ _ _ i R.und O _ _ _ w2 _ (Src.ofNil s.w R.und c)
   |some ad=>exact run_append_nothing s.w _ _ _ _ i R.und O _ _ _ w2 _ (Src.ofSlice s.w R.und _ _ _ [] ZbK ZbK ZbK)
  refine xw ui s xs (xu _ _ Z) hst.le hst.ok (GS.Chg.refl s) (by simpa using I) (λuk L E=>by simpa using J uk L E) (λuk L _=>⟨rfl,λ_=>Iff.rfl⟩) (λuk L=>.inl L) λE K=>?_;rw[List.append_nil]at K ⊢;exact⟨(h6 E K).1,(h6 E K).2⟩
 .obtain ⟨g,p,e3,xd⟩:=h9 r
  subst e3;obtain⟨xh,n1,n2,n3,n4⟩:=XG xd;obtain⟨v',l,Z,q1,q2,q3,q4,q5,q6,q7⟩:=Rn (P:=P) (ty:=o.type) hst.le hst.ok R.und hT xn M Y I (λuk L=>hst.own va _ uk hh L) J g p up.length c xh n1 r n2 n3 xj xm;refine xw v' l (xs++xh) (xu _ _ (by rw[U];exact Z)) q1 q2 q3 q4 q5 q6 q7 λE K=>?_;rw[List.length_append]at K;rw[MO];have xr:xs.length=vp.length*e:=I.1;split
  .rename_i W
   refine⟨(h6 E W).1,λj w=>?_⟩;obtain⟨u,r1,xv,r3⟩:=(h6 E W).2 j w;refine⟨u,?_,xv,(Df _ j).st r3 q3⟩;rw[List.getElem?_append_left]
   .exact r1
   .rw [xr]
    have:(E+1)*e<=vp.length*e:=Nat.mul_le_mul_right e W;exact ZfN
  .rename_i xi
   refine⟨(xd (E-vp.length) Zbx).1,λj w=>?_⟩;obtain⟨u,r1,xv,r3⟩:=n4 (E-vp.length) j Zbx w;refine⟨u,?_,xv,(Df _ j).st r3 q3⟩;have e3:E*e=vp.length*e+(E-vp.length)*e:=by rw[<-Nat.add_mul];exact ZfJ
   rw[List.getElem?_append_right Zbx,xr,<-r1];exact ZfJ
theorem DTurn.rows{s0:An}{hp:List Ow}{t T X sz bytes id m b c:Nat}{z K v:Value}{rows L:List (List D)}{E:List (Nat×Nat)}{dd:Option Tmp}{ty:TypeId}{ps:String}{af:Array Edge}{gd:Option (Nat×Bool)}(O:hp[id]? = some (.obj (Qr v T sz rows)))
  (C:Eo ⟨vd,Dl hp id (.obj (Qr v T sz rows)) (.row T sz (rows++L)) false⟩ (o.map HR.av) E x=.d (ex v)) (N:Eo ⟨vd,Dl hp id (.obj (Qr v T sz rows)) (.row T sz (rows++L)) false⟩ (o.map HR.av) E y=.d (slD X sz L))
  (M:Tab P t (.slice T) m b K) (g:Tab P T d sz bytes z) (Y:z.cells.size=sz) (B:(o.zipIdx.all λp=>Nat.beq p.2 c||l.contains p.2||p.1.ni id)=true) (G:(vd.all λp=>p.2.ni id)=true) (Q:hp.map (Ow.mapA (RG id))=hp) (R:(rows.length+L.length)*bytes<=140737488355328) (W:rows.length+L.length<=4611686018427387904) :
  DTurn P s0 n vd hp id (.obj (Qr v T sz rows)) (.row T sz (rows++L)) o l c E ⟨dd,.call { callee:=.builtin .append,args:=#[x,y],argTypes:=#[t,t] },ty,ps,af,gd⟩ (.own id):=λF hF s S a w Z=>by
 have j:Dl hp id (.obj (Qr v T sz rows)) (.row T sz (rows++L)) false=hp:=by
  unfold Dl;apply List.ext_getElem?;intro i;rw[List.getElem?_set];split
  .rename_i h
   subst h;rw[O]
   try rw[if_pos (BV O)]
   rfl
  .rfl
 have e:=Z x Zcv;have f:=Z y Zcv;rw[C]at e;rw[N]at f;rw[j]at w;refine A2p (P:=P) (o:=⟨dd,.call { callee:=.builtin .append,args:=#[x,y],argTypes:=#[t,t] },ty,ps,af,gd⟩) rfl w O ?_ Q (exD e) f M g Y R W
 have:∀p∈F,RG id p.2=p.2:=λp r=>by
  rcases hF p r with⟨i,u,A,I⟩ | h
  .have:=List.all_eq_true.1 B (p.2, i) (by rw [List.mem_zipIdx_iff_getElem?]; exact I)
   simp only[Bool.or_eq_true]at this;rcases this with(V | V) | V
   .exact absurd (Nat.eq_of_beq_eq_true V) u
   .exact absurd (List.contains_iff_mem.1 V) A
   .exact Va V
  .exact Va (List.all_eq_true.1 G p h)
 conv=>rhs;rw[<-List.map_id F]
 exact List.map_congr_left λp r=>by rw[this p r];rfl
theorem Tj(s:Bool)(l:List Nat)(L:SmW l):Wb 221 (AL [ex (.bool s),wD l]) (Gq s l):=Wb.intro λb E=>by
 have V:∀k,k<l.length->l.getD k 0<4294967296:=λk B=>L.1 _ (BX B);have o:=L.2;have X:(Gq s l).length=(Bl (2*l.length+(if s=true then 1 else 0))).length+(l.flatMap Cj).length:=by rw[Gq,List.length_append]
 have u:2*l.length+(if s=true then 1 else 0)<18446744073709551616:=by split<;>omega
 obtain⟨N,Y⟩:∃N,N=2*l.length+(if s=true then 1 else 0):=⟨_,rfl⟩;have Z:Gq s l=Bl N++l.flatMap Cj:=by rw[Y];rfl
 rw[<-Y]at u X;have G:=Fn N u b Zbx;refine CM Tryz.func221 rfl (Ag Tryz.func221 Zbz Zbz) rfl λA=>?_;rw[Tryz.ntmps221];intro v;cases s
 .have U:N=2*l.length:=by rw [Y];simp
  apply Y1;refine Bx ?_;refine Wa<|Y0<|Y1<|Wa<|Y0<|Aj<|Y1 ?_;refine Wq AH ?_;refine Wq AM ?_;refine Y0<|Cf<|Ys<|Y1<|Wm ?_;refine Wq AH ?_;refine Wq AM ?_;refine Wq NK ?_;refine Wq (AD (r:=((l.length:Nat):Int)) (ao rfl) (Aa rfl) (Aa rfl) (DU Zbx)) ?_;refine Wq (IL (r:=((2*l.length:Nat):Int)) (ao rfl) (ao rfl) ZcC) ?_;refine Wm ?_;refine Wq (DA (r:=((2*l.length:Nat):Int)) (ao rfl) (ao rfl) ZcC) ?_
  refine BZ [0] ((by rw[U]at G;exact G)) rfl Zby rfl Zbu Zbt ZbA Zbr rfl ?_;rintro _ _ ⟨rfl,rfl⟩;refine ZeL ?_;refine AE (λC f=>∃k,k<=l.length/\C=l.length-k/\f=⟨[(0,.own 0),(3,.ptr 2 0),(6,.d (ex (.int .i64 (k:Nat))))],[.row 5 1 (Cy (b++Bl N++(l.take k).flatMap Cj)),.pin [],.var 109 ([ex (.bool false),wD l].map .d)]⟩) ?le ⟨0,by omega,rfl,rfl⟩ ?round
  case le=>exact ZhT
  case round=>
   exact Zbb
 .have U:N=2*l.length+1:=by rw [Y];simp
  apply Y1;refine Bx ?_;refine Wa<|Y0<|Y1<|Wa<|Y0<|Aj<|Y1 ?_;refine Wq AH ?_;refine Wq AM ?_;refine Y0<|Ct<|AWp.region<|Wa<|Y0<|Y1<|Wm ?_;refine Wq AH ?_;refine Wq AM ?_;refine Wq NK ?_;refine Wq (AD (r:=((l.length:Nat):Int)) (ao rfl) (Aa rfl) (Aa rfl) (DU Zbx)) ?_;refine Wq (IL (r:=((2*l.length:Nat):Int)) (ao rfl) (ao rfl) ZcC) ?_;refine Wm ?_;refine Wq (DA (r:=((2*l.length+1:Nat):Int)) (ao rfl) (ao rfl) ZcC) ?_
  refine BZ [0] ((by rw[U]at G;exact G)) rfl Zby rfl Zbu Zbt ZbA Zbr rfl ?_;rintro _ _ ⟨rfl,rfl⟩;refine ZeL ?_;refine AE (λC f=>∃k,k<=l.length/\C=l.length-k/\f=⟨[(0,.own 0),(3,.ptr 2 0),(6,.d (ex (.int .i64 (k:Nat))))],[.row 5 1 (Cy (b++Bl N++(l.take k).flatMap Cj)),.pin [],.var 109 ([ex (.bool true),wD l].map .d)]⟩) ?le ⟨0,by omega,rfl,rfl⟩ ?round
  case le=>exact ZhT
  case round=>
   exact Zbb
theorem DX(q:RQ)(z:QB q):Wb 125 (AL (HK q)) (Cv q):=Wb.intro λb E=>by
 simp only[Cv,List.length_append]at E;have g:=Tj q.b q.l z.n b Zbx;have u:=Tj q.b' q.l' z.d (b++Gq q.b q.l) ZbM;refine CM Tryz.func125 rfl (Ag Tryz.func125 Zbz Zbz) rfl λA=>?_;rw[Tryz.ntmps125];intro v;refine Go ?_;refine Ej 0 5 1 (λy=>Cy (([b,b++Gq q.b q.l,b++Gq q.b q.l++Gq q.b' q.l']:List (List Nat)).getD y [])) 2 (some 0) (λk=>([3,6]:List Nat).getD k 0) [.o 0,.q (.ptr 2 0),.q (.d (AL [ex (.bool q.b),wD q.l])),.t 0,.q (.ptr 2 2),.q (.d (AL [ex (.bool q.b'),wD q.l'])),.t 1,.o 2] [[],[],[(6,1)],[(5,0),(7,2)],[],[(9,4)],[(8,3),(10,5)],[(11,6)]] [(3,.ptr 2 0)] [(4,.own 0)] Zbz rfl ⟨rfl,trivial⟩ (λ_ h=>by cases h;rfl) (by refine CSteps.s ?_;refine DV ?_;refine DV ?_;refine LS (g) ?_;refine DV ?_;refine DV ?_;refine LS (u) ?_;refine CSteps.s ?_;exact CSteps.nil) Zbz rfl Zby ⟨rfl,trivial⟩ [.row 5 1 (Cy (b++Gq q.b q.l++Gq q.b' q.l')),.pin [],.var 111 ((HK q).map .d)] rfl ?_;refine Go ?_
 first | refine Be (RetsA.one rfl) rfl ?_ rfl | refine AG (RetsA.one rfl) rfl ?_ rfl
 exact ZhL
theorem Hh[Inhabited j]{e n b A E T q k:Nat}{f:j->List D}{l:List j}{u:j}(C:II H (vv x)=some (slD T q (l.map f)))(N:vv y=.d (ex (.int i (k:Nat))))(M:Tab P U (.slice e) n b z)(a:Tab P e d A E v)(w:A=q)(B:k<l.length)(F:u=l.getD k default):Quiet P H ⟨vA,.indexAddr U x y,t,vF,vG,vS⟩ vv (.d (Et T (f u))):=F▸Ch C N M a w B
theorem Sa(L:List (RTm))(O:Ew TW L):Wb 58 (IU L) (Co L):=Wb.intro λb E=>by
 have h:=CL (e:=Eq) (l:=L) λx _=>Ob x;have X:(Co L).length=(Bl L.length).length+(L.flatMap Eq).length:=by rw[Co,Bk,List.length_append]
 rw[X]at E;have g:=Fn L.length Zbx b Zbx;refine CM Tryz.func58 rfl (Ag Tryz.func58 Zbz Zbz) rfl λA=>?_;rw[Tryz.ntmps58];intro v;refine Y1<|Wa<|Y0<|Y1<|Wm<|Wm ?_;refine Wq (Bh rfl (Aa rfl)) ?_;refine Wq (AD (r:=((L.length:Nat):Int)) (ao rfl) (Aa rfl) (Aa rfl) (DU Zbx)) ?_
 refine BZ [0] (g) rfl Zby rfl Zbu Zbt ZbA Zbr rfl ?_;rintro _ _ ⟨rfl,rfl⟩;refine ZeL ?_;refine AE (λu f=>∃k,k<=L.length/\u=L.length-k/\f=⟨[(0,.own 0),(1,.d (IU L)),(5,.d (ex (.int .i64 (k:Nat))))],[.row 5 1 (Cy (b++Bl L.length++(L.take k).flatMap Eq)),.pin []]⟩) ?le ⟨0,by omega,rfl,rfl⟩ ?round
 case le=>exact Ac ZbQ ZcD
 case round=>
  rintro u _ ⟨k,B,rfl,rfl⟩;by_cases Q:k<L.length
  .have B:=CG Eq Q
   obtain⟨t,M⟩:∃t,t=L.getD k default:=⟨_,rfl⟩;have C:=O _ (BX Q);rw[<-M]at B C;have F:(Eq t).length=(Cv ⟨t.b,t.l,t.b',t.l'⟩).length+(CU (λz=>Bl (u64 z)) t.m 8).length:=by rw[<-List.length_append];rfl
   have G:=DX ⟨t.b,t.l,t.b',t.l'⟩ ⟨C.n,C.d⟩ (b++Bl L.length++(L.take k).flatMap  Eq) ZbM;refine Aj<|Y1<|Wm<|Wm ?_;refine Wq (Bh rfl (Aa rfl)) ?_;refine Wq AZ ?_;refine Y0<|Ct<|Ys<|Aj<|AWp.block<|Y1<|Wm<|Wm<|Wm ?_;refine Wq (Hh (k:=k) rfl (ao rfl) (Aa rfl) (Aa rfl) rfl Q M) ?_;refine Wq Aw ?_;refine Wq Wt ?_
   refine BZ [0] (G) rfl Zby rfl Zbu Zbt ZbA Zbr rfl ?_;rintro _ _ ⟨rfl,rfl⟩;refine ZeL ?_;refine AE (λu f=>∃j,j<=8/\u=8-j/\f=⟨[(0,.own 0),(1,.d (IU L)),(5,.d (ex (.int .i64 (k:Nat)))),(6,.d (ex (.int .i64 (j:Nat))))],[.row 5 1 (Cy (b++Bl L.length++(L.take k).flatMap Eq++Cv ⟨t.b,t.l,t.b',t.l'⟩++CU (λz=>Bl (u64 z)) t.m j)),.pin []]⟩) ?lej ⟨0,by omega,rfl,rfl⟩ ?roundj
   case lej=>exact Ac Zcf ZcL
   case roundj=>
    rintro u _ ⟨j,i,rfl,rfl⟩;by_cases I:j<8
    .have U:=ES (λz=>Bl (u64 z)) t.m I
     have W:=Fn (u64 (t.m j)) (by unfold u64;omega) (b++Bl L.length++(L.take k).flatMap Eq++Cv ⟨t.b,t.l,t.b',t.l'⟩++CU (λz=>Bl (u64 z)) t.m j) ZbC;refine Aj<|Y1<|Wm ?_;refine Wq AZ ?_;refine Y0<|Ct<|Ys<|Aj<|AWp.block<|AWp.region<|Wm<|Wm<|Wm<|Wm ?_;refine Wq (Hh (k:=k) rfl (ao rfl) (Aa rfl) (Aa rfl) rfl Q M) ?_;refine Wq Aw ?_;refine Wq A4T ?_;refine Wq (Ip (ao rfl) (Aa rfl) rfl (Gl I)) ?_;refine Wq (AD (r:=((u64 (t.m j):Nat):Int)) (ao rfl) (Aa rfl) (Aa rfl) (Tl (t.m j))) ?_
     refine BZ [0] (W) rfl Zby rfl Zbu Zbt ZbA Zbr rfl ?_;rintro _ _ ⟨rfl,rfl⟩;refine ZeL ?_;exact Zgl
    .obtain rfl:j=8:=by omega
     refine ZeA ?_;exact Ac ZbQ (by(refine HpLe.cons (OwLe.row (by rw[BM Eq Q,<-List.append_assoc,<-M,List.append_assoc (_++_) (Cv _)];rfl)) ?_);exact HpLe.cons (Ai rfl)<|HpLe.nil)
  .obtain rfl:k=L.length:=by omega
   refine Aj<|Y1<|Wm<|Wm ?_;refine Wq (Bh rfl (Aa rfl)) ?_;refine Wq AR ?_;refine Y0<|Cf<|Cl<|BF<|Ca<|BJ<|Yn<|Y1<|Wm<|Wa<|Y0<|BG ?_
   first | refine Be (RetsA.one rfl) rfl ?_ rfl | refine AG (RetsA.one rfl) rfl ?_ rfl
   exact⟨rfl,by rw[List.take_length,Co,Bk,<-List.append_assoc];rfl⟩
theorem HW(L:List (List RTm))(O:Ew PoW L):Wb 51 (HU L) (AQ L):=Wb.intro λb E=>by
 have h:=CL (e:=Co) (l:=L) λx _=>Id _ _;have X:(AQ L).length=(Bl L.length).length+(L.flatMap Co).length:=by rw[AQ,Bk,List.length_append]
 rw[X]at E;have g:=Fn L.length Zbx b Zbx;refine CM Tryz.func51 rfl (Ag Tryz.func51 Zbz Zbz) rfl λA=>?_;rw[Tryz.ntmps51];intro v;refine Y1<|Wa<|Y0<|Y1<|Wm<|Wm ?_;refine Wq (Bh rfl (Aa rfl)) ?_;refine Wq (AD (r:=((L.length:Nat):Int)) (ao rfl) (Aa rfl) (Aa rfl) (DU Zbx)) ?_
 refine BZ [0] (g) rfl Zby rfl Zbu Zbt ZbA Zbr rfl ?_;rintro _ _ ⟨rfl,rfl⟩;refine ZeL ?_;refine AE (λu f=>∃k,k<=L.length/\u=L.length-k/\f=⟨[(0,.own 0),(1,.d (HU L)),(5,.d (ex (.int .i64 (k:Nat))))],[.row 5 1 (Cy (b++Bl L.length++(L.take k).flatMap Co)),.pin []]⟩) ?le ⟨0,by omega,rfl,rfl⟩ ?round
 case le=>exact Ac ZbQ ZcD
 case round=>
  rintro u _ ⟨k,B,rfl,rfl⟩;by_cases Q:k<L.length
  .have B:=CG Co Q
   have G:=Sa (L.getD k default) (O _ (BX Q)) (b++Bl L.length++(L.take k).flatMap Co) ZbM;refine Aj<|Y1<|Wm<|Wm ?_;refine Wq (Bh rfl (Aa rfl)) ?_;refine Wq AZ ?_;refine Y0<|Ct<|Ys<|Aj<|AWp.block<|AWp.region<|Wm<|Wm<|Wm ?_;refine Wq (Ch (k:=k) rfl (ao rfl) (Aa rfl) (Aa rfl) rfl Q) ?_;refine Wq Az ?_
   refine BZ [0] (G) rfl Zby rfl Zbu Zbt ZbA Zbr rfl ?_;rintro _ _ ⟨rfl,rfl⟩;refine Zfn ?_;exact Ac ZbQ (by exact HpLe.cons (OwLe.row (by rw[BM Co Q,<-List.append_assoc]))<|HpLe.cons (Ai rfl)<|HpLe.nil)
  .obtain rfl:k=L.length:=by omega
   refine Aj<|Y1<|Wm<|Wm ?_;refine Wq (Bh rfl (Aa rfl)) ?_;refine Wq AR ?_;refine Y0<|Cf<|Cl<|BF<|Ca<|BJ<|Yn<|Y1<|Wm<|Wa<|Y0<|BG ?_
   first | refine Be (RetsA.one rfl) rfl ?_ rfl | refine AG (RetsA.one rfl) rfl ?_ rfl
   exact⟨rfl,by rw[List.take_length,AQ,Bk,<-List.append_assoc];rfl⟩
theorem Od(L:List (List (List RTm)))(O:Ew PsW L):Wb 201 (Vd L) (Bs L):=Wb.intro λb E=>by
 have h:=CL (e:=AQ) (l:=L) λx _=>Id _ _;have X:(Bs L).length=(Bl L.length).length+(L.flatMap AQ).length:=by rw[Bs,Bk,List.length_append]
 rw[X]at E;have g:=Fn L.length Zbx b Zbx;refine CM Tryz.func201 rfl (Ag Tryz.func201 Zbz Zbz) rfl λA=>?_;rw[Tryz.ntmps201];intro v;refine Y1<|Wa<|Y0<|Y1<|Wm<|Wm ?_;refine Wq (Bh rfl (Aa rfl)) ?_;refine Wq (AD (r:=((L.length:Nat):Int)) (ao rfl) (Aa rfl) (Aa rfl) (DU Zbx)) ?_
 refine BZ [0] (g) rfl Zby rfl Zbu Zbt ZbA Zbr rfl ?_;rintro _ _ ⟨rfl,rfl⟩;refine ZeL ?_;refine AE (λu f=>∃k,k<=L.length/\u=L.length-k/\f=⟨[(0,.own 0),(1,.d (Vd L)),(5,.d (ex (.int .i64 (k:Nat))))],[.row 5 1 (Cy (b++Bl L.length++(L.take k).flatMap AQ)),.pin []]⟩) ?le ⟨0,by omega,rfl,rfl⟩ ?round
 case le=>exact Ac ZbQ ZcD
 case round=>
  rintro u _ ⟨k,B,rfl,rfl⟩;by_cases Q:k<L.length
  .have B:=CG AQ Q
   have G:=HW (L.getD k default) (O _ (BX Q)) (b++Bl L.length++(L.take k).flatMap AQ) ZbM;refine Aj<|Y1<|Wm<|Wm ?_;refine Wq (Bh rfl (Aa rfl)) ?_;refine Wq AZ ?_;refine Y0<|Ct<|Ys<|Aj<|AWp.block<|AWp.region<|Wm<|Wm<|Wm ?_;refine Wq (Ch (k:=k) rfl (ao rfl) (Aa rfl) (Aa rfl) rfl Q) ?_;refine Wq Az ?_
   refine BZ [0] (G) rfl Zby rfl Zbu Zbt ZbA Zbr rfl ?_;rintro _ _ ⟨rfl,rfl⟩;refine Zfn ?_;exact Ac ZbQ (by exact HpLe.cons (OwLe.row (by rw[BM AQ Q,<-List.append_assoc]))<|HpLe.cons (Ai rfl)<|HpLe.nil)
  .obtain rfl:k=L.length:=by omega
   refine Aj<|Y1<|Wm<|Wm ?_;refine Wq (Bh rfl (Aa rfl)) ?_;refine Wq AR ?_;refine Y0<|Cf<|Cl<|BF<|Ca<|BJ<|Yn<|Y1<|Wm<|Wa<|Y0<|BG ?_
   first | refine Be (RetsA.one rfl) rfl ?_ rfl | refine AG (RetsA.one rfl) rfl ?_ rfl
   exact⟨rfl,by rw[List.take_length,Bs,Bk,<-List.append_assoc];rfl⟩
theorem Tk(L:List (RQ))(O:Ew QB L):Wb 202 (Kf L) (Ft L):=Wb.intro λb E=>by
 have h:=CL (e:=Cv) (l:=L) λx _=>Hx x;have X:(Ft L).length=(Bl L.length).length+(L.flatMap Cv).length:=by rw[Ft,Bk,List.length_append]
 rw[X]at E;have g:=Fn L.length Zbx b Zbx;refine CM Tryz.func202 rfl (Ag Tryz.func202 Zbz Zbz) rfl λA=>?_;rw[Tryz.ntmps202];intro v;refine Y1<|Wa<|Y0<|Y1<|Wm<|Wm ?_;refine Wq (Bh rfl (Aa rfl)) ?_;refine Wq (AD (r:=((L.length:Nat):Int)) (ao rfl) (Aa rfl) (Aa rfl) (DU Zbx)) ?_
 refine BZ [0] (g) rfl Zby rfl Zbu Zbt ZbA Zbr rfl ?_;rintro _ _ ⟨rfl,rfl⟩;refine ZeL ?_;refine AE (λu f=>∃k,k<=L.length/\u=L.length-k/\f=⟨[(0,.own 0),(1,.d (Kf L)),(5,.d (ex (.int .i64 (k:Nat))))],[.row 5 1 (Cy (b++Bl L.length++(L.take k).flatMap Cv)),.pin []]⟩) ?le ⟨0,by omega,rfl,rfl⟩ ?round
 case le=>exact Ac ZbQ ZcD
 case round=>
  rintro u _ ⟨k,B,rfl,rfl⟩;by_cases Q:k<L.length
  .have B:=CG Cv Q
   have G:=DX (L.getD k default) (O _ (BX Q)) (b++Bl L.length++(L.take k).flatMap Cv) ZbM;refine Aj<|Y1<|Wm<|Wm ?_;refine Wq (Bh rfl (Aa rfl)) ?_;refine Wq AZ ?_;refine Y0<|Ct<|Ys<|Aj<|AWp.block<|AWp.region<|Wm<|Wm<|Wm ?_;refine Wq (Ch (k:=k) rfl (ao rfl) (Aa rfl) (Aa rfl) rfl Q) ?_;refine Wq BO ?_
   refine BZ [0] (G) rfl Zby rfl Zbu Zbt ZbA Zbr rfl ?_;rintro _ _ ⟨rfl,rfl⟩;refine Zfn ?_;exact Ac ZbQ (by exact HpLe.cons (OwLe.row (by rw[BM Cv Q,<-List.append_assoc]))<|HpLe.cons (Ai rfl)<|HpLe.nil)
  .obtain rfl:k=L.length:=by omega
   refine Aj<|Y1<|Wm<|Wm ?_;refine Wq (Bh rfl (Aa rfl)) ?_;refine Wq AR ?_;refine Y0<|Cf<|Cl<|BF<|Ca<|BJ<|Yn<|Y1<|Wm<|Wa<|Y0<|BG ?_
   first | refine Be (RetsA.one rfl) rfl ?_ rfl | refine AG (RetsA.one rfl) rfl ?_ rfl
   exact⟨rfl,by rw[List.take_length,Ft,Bk,<-List.append_assoc];rfl⟩
theorem TE(L:List (Nat->Int))(O:Ew (Gu IW) L):Wb 57 (EZ L) (Cc L):=Wb.intro λb E=>by
 have h:=CL (e:=Fv) (l:=L) λx _=>Gz JL _;have X:(Cc L).length=(Bl L.length).length+(L.flatMap Fv).length:=by rw[Cc,Bk,List.length_append]
 rw[X]at E;have g:=Fn L.length Zbx b Zbx;refine CM Tryz.func57 rfl (Ag Tryz.func57 Zbz Zbz) rfl λA=>?_;rw[Tryz.ntmps57];intro v;refine Y1<|Wa<|Y0<|Y1<|Wm<|Wm ?_;refine Wq (Bh rfl (Aa rfl)) ?_;refine Wq (AD (r:=((L.length:Nat):Int)) (ao rfl) (Aa rfl) (Aa rfl) (DU Zbx)) ?_
 refine BZ [0] (g) rfl Zby rfl Zbu Zbt ZbA Zbr rfl ?_;rintro _ _ ⟨rfl,rfl⟩;refine ZeL ?_;refine AE (λu f=>∃k,k<=L.length/\u=L.length-k/\f=⟨[(0,.own 0),(1,.d (EZ L)),(5,.d (ex (.int .i64 (k:Nat))))],[.row 5 1 (Cy (b++Bl L.length++(L.take k).flatMap Fv)),.pin []]⟩) ?le ⟨0,by omega,rfl,rfl⟩ ?round
 case le=>exact Ac ZbQ ZcD
 case round=>
  rintro u _ ⟨k,B,rfl,rfl⟩;by_cases Q:k<L.length
  .have B:=CG Fv Q
   obtain⟨t,M⟩:∃t,t=L.getD k default:=⟨_,rfl⟩;have C:=O _ (BX Q);rw[<-M]at B C;have z:(Fv t).length=(CU Bc t 8).length:=rfl;refine Aj<|Y1<|Wm<|Wm ?_;refine Wq (Bh rfl (Aa rfl)) ?_;refine Wq AZ ?_;refine Y0<|Ct<|Ys<|Aj<|AWp.block<|Y1<|Wa<|Y0<|AWp.block ?_
   refine AE (λu f=>∃j,j<=8/\u=8-j/\f=⟨[(0,.own 0),(1,.d (EZ L)),(5,.d (ex (.int .i64 (k:Nat)))),(6,.d (ex (.int .i64 (j:Nat))))],[.row 5 1 (Cy (b++Bl L.length++(L.take k).flatMap Fv++CU (Bc) t j)),.pin []]⟩) ?lej ⟨0,by omega,rfl,rfl⟩ ?roundj
   case lej=>exact Ac Zcf ZcL
   case roundj=>
    rintro u _ ⟨j,i,rfl,rfl⟩;by_cases F:j<8
    .have U:=ES (Bc) t F
     have W:=EG (t j) (C j F) (b++Bl L.length++(L.take k).flatMap Fv++CU (Bc) t j) ZbC;refine Aj<|Y1<|Wm ?_;refine Wq AZ ?_;refine Y0<|Ct<|Ys<|Aj<|AWp.block<|AWp.region<|Wm<|Wm<|Wm<|Wm ?_;refine Wq (Hh (k:=k) rfl (ao rfl) (Aa rfl) (Aa rfl) rfl Q M) ?_;refine Wq (JB (k:=j) (ao rfl) (ao rfl) (Aa rfl) (Aa rfl) F) ?_;refine Wq (Ip (ao rfl) (Aa rfl) rfl (Gl F)) ?_
     refine BZ [0] (W) rfl Zby rfl Zbu Zbt ZbA Zbr rfl ?_;rintro _ _ ⟨rfl,rfl⟩;refine ZeL ?_;exact Zgl
    .obtain rfl:j=8:=by omega
     refine ZeA ?_;exact Ac ZbQ (by(refine HpLe.cons (OwLe.row (by rw[BM Fv Q,<-List.append_assoc,<-M];rfl)) ?_);exact HpLe.cons (Ai rfl)<|HpLe.nil)
  .obtain rfl:k=L.length:=by omega
   refine Aj<|Y1<|Wm<|Wm ?_;refine Wq (Bh rfl (Aa rfl)) ?_;refine Wq AR ?_;refine Y0<|Cf<|Cl<|BF<|Ca<|BJ<|Yn<|Y1<|Wm<|Wa<|Y0<|BG ?_
   first | refine Be (RetsA.one rfl) rfl ?_ rfl | refine AG (RetsA.one rfl) rfl ?_ rfl
   exact⟨rfl,by rw[List.take_length,Cc,Bk,<-List.append_assoc];rfl⟩
theorem A1E{u:Array Field}{V:Field}(C:vv x=.d (Et k c))(l:Tab P U (.struct u) b T z)(p:u[n]? = some V)(a:Tab P V.type d m e v)(h:Nat.beq m 0=false)(s:V.offset=va):Quiet P H ⟨vA,.fieldAddr U x n,t,vF,vG,vS⟩ vv (.d (Et k (c.drop va))):=by
 subst s;exact LG (o:=⟨vA,.fieldAddr U x n,t,vF,vG,vS⟩) rfl C l p a (Nat.ne_of_beq_eq_false h)
theorem WN{f:Nat->RQ×RQ}(h:n<8):PartAt (((DB f).drop (n*8)).drop 0) 0 4 (HK (f n).1):=by
 have u:=Hj (c:=λi=>KT (f i)) (n:=8) (λ_=>rfl) h;have L:(FE λi=>KT (f i)).length=64:=DG (n:=8) (λ_=>rfl);refine⟨by simp only[DB,List.length_drop,L];omega,?_⟩;have A:=u.eq;have:(HK (f n).1)=(KT (f n)).take 4:=rfl;rw[this,<-A,List.drop_zero,List.drop_zero,List.take_take];rfl
theorem WM{f:Nat->RQ×RQ}(h:n<8):PartAt (((DB f).drop (n*8)).drop 4) 0 4 (HK (f n).2):=by
 have u:=Hj (c:=λi=>KT (f i)) (n:=8) (λ_=>rfl) h;have L:(FE λi=>KT (f i)).length=64:=DG (n:=8) (λ_=>rfl);refine⟨by simp only[DB,List.length_drop,L];omega,?_⟩;have A:=u.eq;have:(HK (f n).2)=(KT (f n)).drop 4:=rfl;rw[this,<-A,List.drop_zero,List.drop_take];rfl
theorem Uv(L:List (Nat->RQ×RQ))(O:Ew (Gu VW) L):Wb 203 (Gf L) (EB L):=Wb.intro λb E=>by
 have A:=CL (e:=GD) (l:=L) λx _=>Gz Mm _;have X:(EB L).length=(Bl L.length).length+(L.flatMap GD).length:=by rw[EB,Bk,List.length_append]
 rw[X]at E;have g:=Fn L.length Zbx b Zbx;refine CM Tryz.func203 rfl (Ag Tryz.func203 Zbz Zbz) rfl λC=>?_;rw[Tryz.ntmps203];intro v;refine Y1<|Wa<|Y0<|Y1<|Wm<|Wm ?_;refine Wq (Bh rfl (Aa rfl)) ?_;refine Wq (AD (r:=((L.length:Nat):Int)) (ao rfl) (Aa rfl) (Aa rfl) (DU Zbx)) ?_
 refine BZ [0] (g) rfl Zby rfl Zbu Zbt ZbA Zbr rfl ?_;rintro _ _ ⟨rfl,rfl⟩;refine ZeL ?_;refine AE (λF f=>∃k,k<=L.length/\F=L.length-k/\f=⟨[(0,.own 0),(1,.d (Gf L)),(5,.d (ex (.int .i64 (k:Nat))))],[.row 5 1 (Cy (b++Bl L.length++(L.take k).flatMap GD)),.pin []]⟩) ?le ⟨0,by omega,rfl,rfl⟩ ?round
 case le=>exact Ac ZbQ ZcD
 case round=>
  rintro F _ ⟨k,B,rfl,rfl⟩;by_cases Q:k<L.length
  .have B:=CG GD Q
   obtain⟨t,M⟩:∃t,t=L.getD k default:=⟨_,rfl⟩;have G:=O _ (BX Q);rw[<-M]at B G;have z:(GD t).length=(CU FH t 8).length:=rfl;refine Aj<|Y1<|Wm<|Wm ?_;refine Wq (Bh rfl (Aa rfl)) ?_;refine Wq AZ ?_;refine Y0<|Ct<|Ys<|Aj<|AWp.block<|Y1<|Wa<|Y0<|AWp.block ?_
   refine AE (λF f=>∃j,j<=8/\F=8-j/\f=⟨[(0,.own 0),(1,.d (Gf L)),(5,.d (ex (.int .i64 (k:Nat)))),(6,.d (ex (.int .i64 (j:Nat))))],[.row 5 1 (Cy (b++Bl L.length++(L.take k).flatMap GD++CU FH t j)),.pin []]⟩) ?lej ⟨0,by omega,rfl,rfl⟩ ?roundj
   case lej=>exact Ac Zcf ZcL
   case roundj=>
    rintro F _ ⟨j,i,rfl,rfl⟩;by_cases K:j<8
    .have U:=ES FH t K
     have I:=G j K;have Z:(FH (t j)).length=(Cv (t j).1).length+(Cv (t j).2).length:=by rw[FH,List.length_append]
     have g:=DX (t j).1 I.1 (b++Bl L.length++(L.take k).flatMap GD++CU FH t j) ZbM;have u:=DX (t j).2 I.2 (b++Bl L.length++(L.take k).flatMap GD++CU FH t j++Cv (t j).1) ZbM;refine Go ?_;refine Ej 0 5 1 (λy=>Cy (([b++Bl L.length++(L.take k).flatMap GD++CU FH t j,b++Bl L.length++(L.take k).flatMap GD++CU FH t j++Cv (t j).1,b++Bl L.length++(L.take k).flatMap GD++CU FH t j++Cv (t j).1++Cv (t j).2]:List (List Nat)).getD y [])) 2 (some 0) (λk=>([8,16]:List Nat).getD k 0) [.o 0,.q (.d (Gf L)),.q (.d (ex (.int .i64 (k:Nat)))),.q (.d (ex (.int .i64 (j:Nat)))),.q (.d (Et 131 (DB t))),.q (.d (Et 131 ((DB t).drop (j*8)))),.q (.d (Et 131 (((DB t).drop (j*8)).drop 0))),.q (.d (AL (HK (t j).1))),.t 0,.q (.d (Gf L)),.q (.d (ex (.int .i64 (k:Nat)))),.q (.d (ex (.int .i64 (j:Nat)))),.q (.d (Et 131 (DB t))),.q (.d (Et 131 ((DB t).drop (j*8)))),.q (.d (Et 131 (((DB t).drop (j*8)).drop 4))),.q (.d (AL (HK (t j).2))),.t 1,.o 2] [[],[],[],[],[(23,1),(24,2)],[(26,4),(25,3)],[(27,5)],[(28,6)],[(22,0),(29,7)],[],[],[],[(31,9),(32,10)],[(34,12),(33,11)],[(35,13)],[(36,14)],[(30,8),(37,15)],[(38,16)]] [(1,.d (Gf L)),(5,.d (ex (.int .i64 (k:Nat)))),(6,.d (ex (.int .i64 (j:Nat))))] [(0,.own 0),(1,.d (Gf L)),(5,.d (ex (.int .i64 (k:Nat)))),(6,.d (ex (.int .i64 (j:Nat))))] Zbz rfl ⟨rfl,rfl,rfl,trivial⟩ (λ_ h=>by cases h;rfl) (by refine CSteps.s ?_;refine DV ?_;refine DV ?_;refine DV ?_;refine DV ?_;refine DV ?_;refine DV ?_;refine DV ?_;refine LS (g) ?_;refine DV ?_;refine DV ?_;refine DV ?_;refine DV ?_;refine DV ?_;refine DV ?_;refine DV ?_;refine LS (u) ?_;refine CSteps.s ?_;exact CSteps.nil) Zbz rfl Zby ⟨rfl,rfl,rfl,rfl,trivial⟩ [.row 5 1 (Cy (b++Bl L.length++(L.take k).flatMap GD++CU FH t j++Cv (t j).1++Cv (t j).2)),.pin []] rfl ?_;refine Go ?_;refine Am (8-(j+1)) Zbx ⟨j+1,by omega,rfl,rfl⟩ ?_;exact Ac Zcf (by(refine HpLe.cons (OwLe.row (by rw[DC,FH];simp only[List.append_assoc])) ?_);exact HpLe.cons (Ai rfl)<|HpLe.nil)
    .obtain rfl:j=8:=by omega
     refine ZeA ?_;exact Ac ZbQ (by(refine HpLe.cons (OwLe.row (by rw[BM GD Q,<-List.append_assoc,<-M];rfl)) ?_);exact HpLe.cons (Ai rfl)<|HpLe.nil)
  .obtain rfl:k=L.length:=by omega
   refine Aj<|Y1<|Wm<|Wm ?_;refine Wq (Bh rfl (Aa rfl)) ?_;refine Wq AR ?_;refine Y0<|Cf<|Cl<|BF<|Ca<|BJ<|Yn<|Y1<|Wm<|Wa<|Y0<|BG ?_
   first | refine Be (RetsA.one rfl) rfl ?_ rfl | refine AG (RetsA.one rfl) rfl ?_ rfl
   exact⟨rfl,by rw[List.take_length,EB,Bk,<-List.append_assoc];rfl⟩
theorem JQ{e:j->List Nat}(l:List j)(h:∀x,0<(e x).length):l.length<=(l.flatMap e).length:=CL (e:=e) (l:=l) λx _=>h x
theorem A30(k:Cor)(h:CoW k):Wb 19 (AL (FI k)) (FA k):=Wb.intro λb E=>by
 have X:FA k=Bc k.n++(AQ k.e++(AQ k.f)):=by simp only[FA,List.append_assoc]
 rw[X]at E;simp only[List.length_append]at E;obtain⟨l,L⟩:∃B,B=b++Bc k.n:=⟨_,rfl⟩;have P:l.length=b.length+(Bc k.n).length:=by rw[L,List.length_append]
 have u:=EG k.n h.n b Zbx;rw[<-L]at u;obtain⟨f,M⟩:∃B,B=l++AQ k.e:=⟨_,rfl⟩;have F:f.length=l.length+(AQ k.e).length:=by rw[M,List.length_append]
 have A:=HW k.e h.e l Zbx;rw[<-M]at A;obtain⟨K,N⟩:∃B,B=f++AQ k.f:=⟨_,rfl⟩;have G:K.length=f.length+(AQ k.f).length:=by rw[N,List.length_append]
 have I:=HW k.f h.f f Zbx;rw[<-N]at I;have z:b++FA k=K:=by rw[N,M,L];simp only[FA,List.append_assoc]
 refine CM Tryz.func19 rfl (Ag Tryz.func19 Zbz Zbz) rfl λC=>?_;rw[Tryz.ntmps19];intro v;apply Y1;refine Bx ?_;refine Wa<|Y0<|Aj ?_
 refine Ej 0 5 1 (λy=>Cy (([b,l,f,K]:List (List Nat)).getD y [])) 3 (some 0) (λk=>([3,6,9]:List Nat).getD k 0) [.o 0,.q (.ptr 2 0),.q (.d (ex (.int .i64 k.n))),.t 0,.q (.ptr 2 1),.q (.d (HU k.e)),.t 1,.q (.ptr 2 2),.q (.d (HU k.f)),.t 2,.o 3] [[],[],[(6,1)],[(5,0),(7,2)],[],[(9,4)],[(8,3),(10,5)],[],[(12,7)],[(11,6),(13,8)],[(14,9)]] [(3,.ptr 2 0)] [(4,.own 0)] Zbz rfl ⟨rfl,trivial⟩ (λ_ h=>by cases h;rfl) (by refine CSteps.s ?_;refine DV ?_;refine DV ?_;refine LS (u) ?_;refine DV ?_;refine DV ?_;refine LS (A) ?_;refine DV ?_;refine DV ?_;refine LS (I) ?_;refine CSteps.s ?_;exact CSteps.nil) Zbz rfl Zby ⟨rfl,trivial⟩ [.row 5 1 (Cy (K)),.pin [],.var 26 ((FI k).map .d)] rfl ?_;refine Yn<|BG ?_
 exact Zbc
theorem A1g(c:Clm)(h:ClW c):Wb 110 (AL (Ef c)) (IH c):=Wb.intro λb E=>by
 have X:IH c=Bc c.kind++(Co c.p++(Bc c.n++(Bc c.d++(Bc c.r++(Cc c.o++(AQ c.l++(Bl c.s.length++(c.s.flatMap Bc++(EB c.b))))))))):=by simp only[IH,Bk,List.append_assoc]
 rw[X]at E;simp only[List.length_append]at E;have F:=JQ c.s JL;obtain⟨l,n⟩:∃B,B=b++Bc c.kind:=⟨_,rfl⟩;have P:l.length=b.length+(Bc c.kind).length:=by rw[n,List.length_append]
 have u:=EG c.kind h.kind b Zbx;rw[<-n]at u;obtain⟨W,o⟩:∃B,B=l++Co c.p:=⟨_,rfl⟩;have N:W.length=l.length+(Co c.p).length:=by rw[o,List.length_append]
 have A:=Sa c.p h.p l Zbx;rw[<-o]at A;obtain⟨S,a⟩:∃B,B=W++Bc c.n:=⟨_,rfl⟩;have R:S.length=W.length+(Bc c.n).length:=by rw[a,List.length_append]
 have I:=EG c.n h.n W Zbx;rw[<-a]at I;obtain⟨d,r⟩:∃B,B=S++Bc c.d:=⟨_,rfl⟩;have T:d.length=S.length+(Bc c.d).length:=by rw[r,List.length_append]
 have V:=EG c.d h.d S Zbx;rw[<-r]at V;obtain⟨i,s⟩:∃B,B=d++Bc c.r:=⟨_,rfl⟩;have J:i.length=d.length+(Bc c.r).length:=by rw[s,List.length_append]
 have m:=EG c.r h.r d Zbx;rw[<-s]at m;obtain⟨j,t⟩:∃B,B=i++Cc c.o:=⟨_,rfl⟩;have U:j.length=i.length+(Cc c.o).length:=by rw[t,List.length_append]
 have y:=TE c.o h.o i Zbx;rw[<-t]at y;obtain⟨Z,w⟩:∃B,B=j++AQ c.l:=⟨_,rfl⟩;have xa:Z.length=j.length+(AQ c.l).length:=by rw[w,List.length_append]
 have e:=HW c.l h.l j Zbx;rw[<-w]at e;obtain⟨B8,x⟩:∃B,B=Z++Bl c.s.length:=⟨_,rfl⟩;have xb:B8.length=Z.length+(Bl c.s.length).length:=by rw[x,List.length_append]
 have M:=Fn c.s.length Zbx Z Zbx;rw[<-x]at M;obtain⟨g,H⟩:∃B,B=B8++c.s.flatMap Bc:=⟨_,rfl⟩;have xc:g.length=B8.length+(c.s.flatMap Bc).length:=by rw[H,List.length_append]
 obtain⟨q,p⟩:∃B,B=g++EB c.b:=⟨_,rfl⟩;have xd:q.length=g.length+(EB c.b).length:=by rw[p,List.length_append]
 have O:=Uv c.b h.b g Zbx;rw[<-p]at O;have z:b++IH c=q:=by rw[p,H,x,w,t,s,r,a,o,n];simp only[IH,Bk,List.append_assoc]
 refine CM Tryz.func110 rfl (Ag Tryz.func110 Zbz Zbz) rfl λK=>?_;rw[Tryz.ntmps110];intro v;apply Y1;refine Bx ?_;refine Wa<|Y0<|Aj ?_
 refine Ej 0 5 1 (λY=>Cy (([b,l,W]:List (List Nat)).getD Y [])) 2 (some 0) (λk=>([3,6]:List Nat).getD k 0) [.o 0,.q (.ptr 2 0),.q (.d (ex (.int .i64 c.kind))),.t 0,.q (.ptr 2 1),.q (.d (IU c.p)),.t 1,.o 2] [[],[],[(7,1)],[(6,0),(8,2)],[],[(10,4)],[(9,3),(11,5)],[(12,6)]] [(3,.ptr 2 0)] [(0,.own 0),(3,.ptr 2 0)] Zbz rfl ⟨rfl,trivial⟩ (λ_ h=>by cases h;rfl) (by refine CSteps.s ?_;refine DV ?_;refine DV ?_;refine LS (u) ?_;refine DV ?_;refine DV ?_;refine LS (A) ?_;refine CSteps.s ?_;exact CSteps.nil) Zbz rfl Zby ⟨rfl,rfl,trivial⟩ [.row 5 1 (Cy (W)),.pin [],.var 34 ((Ef c).map .d)] rfl ?_;refine Yn<|Aj ?_
 refine Ej 0 5 1 (λY=>Cy (([W,S,d,i,j,Z]:List (List Nat)).getD Y [])) 5 (some 0) (λk=>([3,6,9,12,15]:List Nat).getD k 0) [.o 0,.q (.ptr 2 2),.q (.d (ex (.int .i64 c.n))),.t 0,.q (.ptr 2 3),.q (.d (ex (.int .i64 c.d))),.t 1,.q (.ptr 2 4),.q (.d (ex (.int .i64 c.r))),.t 2,.q (.ptr 2 5),.q (.d (EZ c.o)),.t 3,.q (.ptr 2 6),.q (.d (HU c.l)),.t 4,.o 5] [[],[],[(14,1)],[(13,0),(15,2)],[],[(17,4)],[(16,3),(18,5)],[],[(20,7)],[(19,6),(21,8)],[],[(23,10)],[(22,9),(24,11)],[],[(26,13)],[(25,12),(27,14)],[(28,15)]] [(3,.ptr 2 0)] [(0,.own 0),(3,.ptr 2 0)] Zbz rfl ⟨rfl,trivial⟩ (λ_ h=>by cases h;rfl) (by refine CSteps.s ?_;refine DV ?_;refine DV ?_;refine LS (I) ?_;refine DV ?_;refine DV ?_;refine LS (V) ?_;refine DV ?_;refine DV ?_;refine LS (m) ?_;refine DV ?_;refine DV ?_;refine LS (y) ?_;refine DV ?_;refine DV ?_;refine LS (e) ?_;refine CSteps.s ?_;exact CSteps.nil) Zbz rfl Zby ⟨rfl,rfl,trivial⟩ [.row 5 1 (Cy (Z)),.pin [],.var 34 ((Ef c).map .d)] rfl ?_;refine Yn<|Y1<|Wm ?_;refine Wq AH ?_;refine Wq AM ?_;refine Wq (Bh rfl (Aa rfl)) ?_;refine Wq (AD (r:=((c.s.length:Nat):Int)) (ao rfl) (Aa rfl) (Aa rfl) (DU Zbx)) ?_
 refine BZ [0] (M) rfl Zby rfl Zbu Zbt ZbA Zbr rfl ?_;rintro _ _ ⟨rfl,rfl⟩;refine Kr ?_;refine Wa<|Y0<|Aj<|Y1<|Wa<|Y0<|AWp.block ?_
 refine AE (λL f=>∃k,k<=c.s.length/\L=c.s.length-k/\f=⟨[(0,.own 0),(3,.ptr 2 0),(5,.d (ex (.int .i64 (k:Nat))))],[.row 5 1 (Cy (B8++(c.s.take k).flatMap Bc)),.pin [],.var 34 ((Ef c).map .d)]⟩) ?le ⟨0,by omega,rfl,rfl⟩ ?round
 case le=>exact Ac ZbN ZcF
 case round=>
  rintro L _ ⟨k,C,rfl,rfl⟩;by_cases Q:k<c.s.length
  .have C:=CG Bc Q
   have G:=EG (c.s.getD k default) (h.s _ (BX Q)) (B8++(c.s.take k).flatMap Bc) ZbM;refine Aj<|Y1<|Wm ?_;refine Wq AH ?_;refine Wq AM ?_;refine Wq (Bh rfl (Aa rfl)) ?_;refine Wq AZ ?_;refine Y0<|Ct<|Ys<|Aj<|AWp.block<|AWp.region<|Wm ?_;refine Wq AH ?_;refine Wq AM ?_;refine Wm ?_;refine Wq (Ch (k:=k) rfl (ao rfl) (Aa rfl) (Aa rfl) rfl Q) ?_;refine Wq Az ?_
   refine BZ [0] (G) rfl Zby rfl Zbu Zbt ZbA Zbr rfl ?_;rintro _ _ ⟨rfl,rfl⟩;refine Kr ?_;refine Wa<|AWl.nil<|BE<|Yn<|AWp.region<|Wm ?_;refine Wq Eb ?_;refine Wa<|AWl.nil ?_
   refine Am (c.s.length-(k+1)) Zbx ⟨k+1,by omega,rfl,rfl⟩ ?_;exact Ac ZbN (by exact HpLe.cons (OwLe.row (by rw[BM Bc Q,<-List.append_assoc]))<|HpLe.cons (Ai rfl)<|HpLe.cons (Ad rfl)<|HpLe.nil)
  .obtain rfl:k=c.s.length:=by omega
   rw[List.take_length,<-H];refine Aj<|Y1<|Wm ?_;refine Wq AH ?_;refine Wq AM ?_;refine Wq (Bh rfl (Aa rfl)) ?_;refine Wq AR ?_;refine Y0<|Cf<|Cl<|BF<|Ca<|BJ<|Yn<|Y1<|Wm ?_;refine Wq AH ?_;refine Wq AM ?_
   refine BZ [0] (O) rfl Zby rfl Zbu Zbt ZbA Zbr rfl ?_;rintro _ _ ⟨rfl,rfl⟩;refine Kr ?_;refine Wa<|Y0<|BG ?_
   exact Zbc
theorem UY{e:Crt}{k:Nat}(h:k<8):CellAt (Ea e) (7+k*1) (ex (.int .i64 (e.r.l k))):=by
 rcases lt8 h with rfl | rfl | rfl | rfl | rfl | rfl | rfl | rfl<;>exact⟨(by decide:_<28),rfl⟩
theorem UX{e:Crt}{k:Nat}(h:k<8):CellAt (Ea e) (16+k*1) (Kf (e.r.r k)):=by
 rcases lt8 h with rfl | rfl | rfl | rfl | rfl | rfl | rfl | rfl<;>exact⟨(by decide:_<28),rfl⟩
theorem WL{f:Nat->RQ}(h:n<8):PartAt ((Oz f).drop (n*4)) 0 4 (HK (f n)):=by
 have u:=Hj (c:=λi=>HK (f i)) (n:=4) (λ_=>rfl) h;have L:(FE λi=>HK (f i)).length=32:=DG (n:=4) (λ_=>rfl);exact⟨by simp only[Oz,List.length_drop,L];omega,u.eq⟩
theorem A39(e:Crt)(h:CrW e):Wb 109 (AL (Ea e)) (KG e):=Wb.intro λb E=>by
 have X:KG e=Bc e.n++(AQ e.cof++(AQ e.g++(Cc e.o++(Bs e.c++(Bs e.q++(Bs e.s++(Fv e.r.l++(Ft e.r.q++(KC Ft e.r.r++(Bl e.a.length++(e.a.flatMap FH++(Bl e.sq.length++(e.sq.flatMap IZ++(Bl e.x.length++(e.x.flatMap ND++(EB e.b)))))))))))))))):=by simp only[KG,Je,Bk,List.append_assoc]
 rw[X]at E;simp only[List.length_append]at E;have xN:=JQ e.a Mm;have xO:=JQ e.sq Vo;have s:e.x.length<=(e.x.flatMap ND).length:=JQ e.x (Gz Hx);obtain⟨n,xa⟩:∃B,B=b++Bc e.n:=⟨_,rfl⟩;have P:n.length=b.length+(Bc e.n).length:=by rw[xa,List.length_append]
 have u:=EG e.n h.n b Zbx;rw[<-xa]at u;obtain⟨d,xb⟩:∃B,B=n++AQ e.cof:=⟨_,rfl⟩;have N:d.length=n.length+(AQ e.cof).length:=by rw[xb,List.length_append]
 have A:=HW e.cof h.cof n Zbx;rw[<-xb]at A;obtain⟨c,p⟩:∃B,B=d++AQ e.g:=⟨_,rfl⟩;have W:c.length=d.length+(AQ e.g).length:=by rw[p,List.length_append]
 have I:=HW e.g h.g d Zbx;rw[<-p]at I;obtain⟨r,xf⟩:∃B,B=c++Cc e.o:=⟨_,rfl⟩;have xm:r.length=c.length+(Cc e.o).length:=by rw[xf,List.length_append]
 have V:=TE e.o h.o c Zbx;rw[<-xf]at V;obtain⟨T,xg⟩:∃B,B=r++Bs e.c:=⟨_,rfl⟩;have xl:T.length=r.length+(Bs e.c).length:=by rw[xg,List.length_append]
 have m:=Od e.c h.c r Zbx;rw[<-xg]at m;obtain⟨B6,xh⟩:∃B,B=T++Bs e.q:=⟨_,rfl⟩;have xo:B6.length=T.length+(Bs e.q).length:=by rw[xh,List.length_append]
 have y:=Od e.q h.q T Zbx;rw[<-xh]at y;obtain⟨o,xi⟩:∃B,B=B6++Bs e.s:=⟨_,rfl⟩;have xp:o.length=B6.length+(Bs e.s).length:=by rw[xi,List.length_append]
 have L:=Od e.s h.s B6 Zbx;rw[<-xi]at L;obtain⟨B8,xj⟩:∃B,B=o++Fv e.r.l:=⟨_,rfl⟩;have xq:B8.length=o.length+(Fv e.r.l).length:=by rw[xj,List.length_append]
 obtain⟨w,xk⟩:∃B,B=B8++Ft e.r.q:=⟨_,rfl⟩;have xr:w.length=B8.length+(Ft e.r.q).length:=by rw[xk,List.length_append]
 have O:=Tk e.r.q h.r.q B8 Zbx;rw[<-xk]at O;obtain⟨xc,xe⟩:∃B,B=w++KC Ft e.r.r:=⟨_,rfl⟩;have xC:xc.length=w.length+(KC Ft e.r.r).length:=by rw[xe,List.length_append]
 obtain⟨H,xv⟩:∃B,B=xc++Bl e.a.length:=⟨_,rfl⟩;have xG:H.length=xc.length+(Bl e.a.length).length:=by rw[xv,List.length_append]
 have R:=Fn e.a.length Zbx xc Zbx;rw[<-xv]at R;obtain⟨xs,xw⟩:∃B,B=H++e.a.flatMap FH:=⟨_,rfl⟩;have xH:xs.length=H.length+(e.a.flatMap FH).length:=by rw[xw,List.length_append]
 obtain⟨J,xx⟩:∃B,B=xs++Bl e.sq.length:=⟨_,rfl⟩;have xI:J.length=xs.length+(Bl e.sq.length).length:=by rw[xx,List.length_append]
 have a:=Fn e.sq.length Zbx xs Zbx;rw[<-xx]at a;obtain⟨xt,xy⟩:∃B,B=J++e.sq.flatMap IZ:=⟨_,rfl⟩;have xJ:xt.length=J.length+(e.sq.flatMap IZ).length:=by rw[xy,List.length_append]
 obtain⟨xd,xz⟩:∃B,B=xt++Bl e.x.length:=⟨_,rfl⟩;have xK:xd.length=xt.length+(Bl e.x.length).length:=by rw[xz,List.length_append]
 have xE:=Fn e.x.length Zbx xt Zbx;rw[<-xz]at xE;obtain⟨xu,xA⟩:∃B,B=xd++e.x.flatMap ND:=⟨_,rfl⟩;have xL:xu.length=xd.length+(e.x.flatMap ND).length:=by rw[xA,List.length_append]
 obtain⟨xD,xB⟩:∃B,B=xu++EB e.b:=⟨_,rfl⟩;have xM:xD.length=xu.length+(EB e.b).length:=by rw[xB,List.length_append]
 have xF:=Uv e.b h.b xu Zbx;rw[<-xB]at xF;have z:b++KG e=xD:=by rw[xB,xA,xz,xy,xx,xw,xv,xe,xk,xj,xi,xh,xg,xf,p,xb,xa];simp only[KG,Je,Bk,List.append_assoc]
 refine CM Tryz.func109 rfl (Ag Tryz.func109 Zbz Zbz) rfl λF=>?_;rw[Tryz.ntmps109];intro v;apply Y1;refine Bx ?_;refine Wa<|Y0<|Aj ?_
 refine Ej 0 5 1 (λl=>Cy (([b,n,d,c,r]:List (List Nat)).getD l [])) 4 (some 0) (λk=>([3,6,9,12]:List Nat).getD k 0) [.o 0,.q (.ptr 2 0),.q (.d (ex (.int .i64 e.n))),.t 0,.q (.ptr 2 1),.q (.d (HU e.cof)),.t 1,.q (.ptr 2 2),.q (.d (HU e.g)),.t 2,.q (.ptr 2 3),.q (.d (EZ e.o)),.t 3,.o 4] [[],[],[(12,1)],[(11,0),(13,2)],[],[(15,4)],[(14,3),(16,5)],[],[(18,7)],[(17,6),(19,8)],[],[(21,10)],[(20,9),(22,11)],[(23,12)]] [(3,.ptr 2 0)] [(0,.own 0),(3,.ptr 2 0)] Zbz rfl ⟨rfl,trivial⟩ (λ_ h=>by cases h;rfl) (by refine CSteps.s ?_;refine DV ?_;refine DV ?_;refine LS (u) ?_;refine DV ?_;refine DV ?_;refine LS (A) ?_;refine DV ?_;refine DV ?_;refine LS (I) ?_;refine DV ?_;refine DV ?_;refine LS (V) ?_;refine CSteps.s ?_;exact CSteps.nil) Zbz rfl Zby ⟨rfl,rfl,trivial⟩ [.row 5 1 (Cy (r)),.pin [],.var 46 ((Ea e).map .d)] rfl ?_;refine Yn<|Aj ?_
 refine Ej 0 5 1 (λl=>Cy (([r,T,B6,o]:List (List Nat)).getD l [])) 3 (some 0) (λk=>([3,6,9]:List Nat).getD k 0) [.o 0,.q (.ptr 2 4),.q (.d (Vd e.c)),.t 0,.q (.ptr 2 5),.q (.d (Vd e.q)),.t 1,.q (.ptr 2 6),.q (.d (Vd e.s)),.t 2,.o 3] [[],[],[(25,1)],[(24,0),(26,2)],[],[(28,4)],[(27,3),(29,5)],[],[(31,7)],[(30,6),(32,8)],[(33,9)]] [(3,.ptr 2 0)] [(0,.own 0),(3,.ptr 2 0)] Zbz rfl ⟨rfl,trivial⟩ (λ_ h=>by cases h;rfl) (by refine CSteps.s ?_;refine DV ?_;refine DV ?_;refine LS (m) ?_;refine DV ?_;refine DV ?_;refine LS (y) ?_;refine DV ?_;refine DV ?_;refine LS (L) ?_;refine CSteps.s ?_;exact CSteps.nil) Zbz rfl Zby ⟨rfl,rfl,trivial⟩ [.row 5 1 (Cy (o)),.pin [],.var 46 ((Ea e).map .d)] rfl ?_;refine Yn<|Aj<|Y1<|Wa<|Y0<|AWp.block ?_
 refine AE (λK f=>∃k,k<=8/\K=8-k/\f=⟨[(0,.own 0),(3,.ptr 2 0),(5,.d (ex (.int .i64 (k:Nat))))],[.row 5 1 (Cy (o++CU (Bc) e.r.l k)),.pin [],.var 46 ((Ea e).map .d)]⟩) ?le ⟨0,by omega,rfl,rfl⟩ ?round
 case le=>exact Ac ZbN Zcs
 case round=>
  rintro K _ ⟨k,C,rfl,rfl⟩;by_cases Q:k<8
  .have C:=ES (Bc) e.r.l Q
   have x:(CU (Bc) e.r.l 8).length=(Fv e.r.l).length:=rfl;have G:=EG (e.r.l k) (h.r.l k Q) (o++CU (Bc) e.r.l k) ZbM;refine Aj<|Y1<|Wm ?_;refine Wq AZ ?_;refine Y0<|Ct<|Ys<|Aj<|AWp.block<|AWp.region<|Wm<|Wm ?_;refine Wq AH ?_;refine Wq AH ?_;refine Wq (KK (k:=k) (ao rfl) (ao rfl) (Aa rfl) (Aa rfl) Q) ?_;refine Wq (Ka (ao rfl) rfl (Aa rfl) rfl (UY Q)) ?_
   exact Zbd
  .obtain rfl:k=8:=by omega
   rw[show o++CU (Bc) e.r.l 8=B8 from xj.symm];refine Aj<|Y1<|Wm ?_;refine Wq AR ?_;refine Y0<|Cf<|Cl<|BF<|Ca<|BJ<|Yn<|Y1<|Wm ?_;refine Wq AH ?_;refine Wq AH ?_;refine Wq AM ?_
   refine BZ [0] (O) rfl Zby rfl Zbu Zbt ZbA Zbr rfl ?_;rintro _ _ ⟨rfl,rfl⟩;refine Kr ?_;refine Ba (σ':=⟨[(3,.ptr 2 0),(49,.own 0)],[.row 5 1 (Cy (w)),.pin [],.var 46 ((Ea e).map .d)]⟩) ?_ ?_
   .exact Ac ZcH Zct
   refine Wa<|Y0<|Aj<|Y1<|Wa<|Y0<|AWp.block ?_
   refine AE (λK f=>∃k,k<=8/\K=8-k/\f=⟨[(0,.own 0),(3,.ptr 2 0),(6,.d (ex (.int .i64 (k:Nat))))],[.row 5 1 (Cy (w++CU (Ft) e.r.r k)),.pin [],.var 46 ((Ea e).map .d)]⟩) ?le ⟨0,by omega,rfl,rfl⟩ ?round
   case le=>exact Ac ZbN Zcs
   case round=>
    rintro K _ ⟨k,C,rfl,rfl⟩;by_cases Q:k<8
    .have C:=ES (Ft) e.r.r Q
     have x:(CU (Ft) e.r.r 8).length=(KC Ft e.r.r).length:=rfl;have G:=Tk (e.r.r k) (h.r.r k Q) (w++CU (Ft) e.r.r k) ZbM;refine Aj<|Y1<|Wm ?_;refine Wq AZ ?_;refine Y0<|Ct<|Ys<|Aj<|AWp.block<|AWp.region<|Wm<|Wm ?_;refine Wq AH ?_;refine Wq AH ?_;refine Wq (KK (k:=k) (ao rfl) (ao rfl) (Aa rfl) (Aa rfl) Q) ?_;refine Wq (Ka (ao rfl) rfl (Aa rfl) rfl (UX Q)) ?_
     exact Zbd
    .obtain rfl:k=8:=by omega
     rw[show w++CU (Ft) e.r.r 8=xc from xe.symm];refine Aj<|Y1<|Wm ?_;refine Wq AR ?_;refine Y0<|Cf<|Cl<|BF<|Ca<|BJ<|Yn<|Y1<|Wm ?_;refine Wq AH ?_;refine Wq AM ?_;refine Wq (Bh rfl (Aa rfl)) ?_;refine Wq (AD (r:=((e.a.length:Nat):Int)) (ao rfl) (Aa rfl) (Aa rfl) (DU Zbx)) ?_
     refine BZ [0] (R) rfl Zby rfl Zbu Zbt ZbA Zbr rfl ?_;rintro _ _ ⟨rfl,rfl⟩;refine Kr ?_;refine Ba (σ':=⟨[(3,.ptr 2 0),(66,.own 0)],[.row 5 1 (Cy (H)),.pin [],.var 46 ((Ea e).map .d)]⟩) ?_ ?_
     .exact Ac ZcH Zct
     refine Wa<|Y0<|Aj<|Y1<|Wa<|Y0<|AWp.block ?_
     refine AE (λK f=>∃k,k<=e.a.length/\K=e.a.length-k/\f=⟨[(0,.own 0),(3,.ptr 2 0),(7,.d (ex (.int .i64 (k:Nat))))],[.row 5 1 (Cy (H++(e.a.take k).flatMap FH)),.pin [],.var 46 ((Ea e).map .d)]⟩) ?le ⟨0,by omega,rfl,rfl⟩ ?round
     case le=>exact Ac ZbN ZcF
     case round=>
      rintro K _ ⟨k,C,rfl,rfl⟩;by_cases Q:k<e.a.length
      .have C:=CG FH Q
       obtain⟨t,M⟩:∃t,t=e.a.getD k default:=⟨_,rfl⟩;have g:=h.a _ (BX Q);rw[<-M]at C g;have Z:(FH t).length=(Cv t.1).length+(Cv t.2).length:=by rw[FH,List.length_append]
       have g0:=DX t.1 g.1 (H++(e.a.take k).flatMap FH) ZbM;have Y:=DX t.2 g.2 (H++(e.a.take k).flatMap FH++Cv t.1) ZbM;refine Aj<|Y1<|Wm ?_;refine Wq AH ?_;refine Wq AM ?_;refine Wq (Bh rfl (Aa rfl)) ?_;refine Wq AZ ?_;refine Y0<|Ct<|Ys<|Aj<|AWp.block ?_
       refine Ej 0 5 1 (λl=>Cy (([H++(e.a.take k).flatMap FH,H++(e.a.take k).flatMap FH++Cv t.1,H++(e.a.take k).flatMap FH++Cv t.1++Cv t.2]:List (List Nat)).getD l [])) 2 (some 0) (λk=>([7,14]:List Nat).getD k 0) [.o 0,.q (.ptr 2 24),.q (.d (Zd e.a)),.q (.d (ex (.int .i64 (k:Nat)))),.q (.d (Et 129 (KT t))),.q (.d (Et 129 ((KT t).drop 0))),.q (.d (AL (HK t.1))),.t 0,.q (.ptr 2 24),.q (.d (Zd e.a)),.q (.d (ex (.int .i64 (k:Nat)))),.q (.d (Et 129 (KT t))),.q (.d (Et 129 ((KT t).drop 4))),.q (.d (AL (HK t.2))),.t 1,.o 2] [[],[],[(75,1)],[],[(76,2),(77,3)],[(78,4)],[(79,5)],[(74,0),(80,6)],[],[(82,8)],[],[(83,9),(84,10)],[(85,11)],[(86,12)],[(81,7),(87,13)],[(88,14)]] [(3,.ptr 2 0),(7,.d (ex (.int .i64 (k:Nat))))] [(0,.own 0),(3,.ptr 2 0),(7,.d (ex (.int .i64 (k:Nat))))] Zbz rfl ⟨rfl,rfl,trivial⟩ (λ_ h=>by cases h;rfl) Zcj Zbz rfl Zby ⟨rfl,rfl,rfl,trivial⟩ [.row 5 1 (Cy (H++(e.a.take k).flatMap FH++Cv t.1++Cv t.2)),.pin [],.var 46 ((Ea e).map .d)] rfl ?_;refine BE<|Yn<|AWp.region<|Wm ?_;refine Wq Eb ?_;refine Wa<|AWl.nil ?_
       refine Am (e.a.length-(k+1)) Zbx ⟨k+1,by omega,rfl,rfl⟩ ?_;exact Ac ZbN (by(refine HpLe.cons (OwLe.row (by rw[BM FH Q,<-M,FH];simp only[List.append_assoc])) ?_);exact HpLe.cons (Ai rfl)<|HpLe.cons (Ad rfl)<|HpLe.nil)
      .obtain rfl:k=e.a.length:=by omega
       rw[List.take_length,<-xw];refine Aj<|Y1<|Wm ?_;refine Wq AH ?_;refine Wq AM ?_;refine Wq (Bh rfl (Aa rfl)) ?_;refine Wq AR ?_;refine Y0<|Cf<|Cl<|BF<|Ca<|BJ<|Yn<|Y1<|Wm ?_;refine Wq AH ?_;refine Wq AM ?_;refine Wq (Bh rfl (Aa rfl)) ?_;refine Wq (AD (r:=((e.sq.length:Nat):Int)) (ao rfl) (Aa rfl) (Aa rfl) (DU Zbx)) ?_
       refine BZ [0] (a) rfl Zby rfl Zbu Zbt ZbA Zbr rfl ?_;rintro _ _ ⟨rfl,rfl⟩;refine Kr ?_;refine Ba (σ':=⟨[(3,.ptr 2 0),(94,.own 0)],[.row 5 1 (Cy (J)),.pin [],.var 46 ((Ea e).map .d)]⟩) ?_ ?_
       .exact Ac ZcH Zct
       refine Wa<|Y0<|Aj<|Y1<|Wa<|Y0<|AWp.block ?_
       refine AE (λK f=>∃k,k<=e.sq.length/\K=e.sq.length-k/\f=⟨[(0,.own 0),(3,.ptr 2 0),(8,.d (ex (.int .i64 (k:Nat))))],[.row 5 1 (Cy (J++(e.sq.take k).flatMap IZ)),.pin [],.var 46 ((Ea e).map .d)]⟩) ?le ⟨0,by omega,rfl,rfl⟩ ?round
       case le=>exact Ac ZbN ZcF
       case round=>
        rintro K _ ⟨k,C,rfl,rfl⟩;by_cases Q:k<e.sq.length
        .have C:=CG IZ Q
         obtain⟨t,M⟩:∃t,t=e.sq.getD k default:=⟨_,rfl⟩;have g:=h.sq _ (BX Q);rw[<-M]at C g;have Z:(IZ t).length=(Cv t.1).length+(Co t.2).length:=by rw[IZ,List.length_append]
         have g0:=DX t.1 g.1 (J++(e.sq.take k).flatMap IZ) ZbM;have Y:=Sa t.2 g.2 (J++(e.sq.take k).flatMap IZ++Cv t.1) ZbM;refine Aj<|Y1<|Wm ?_;refine Wq AH ?_;refine Wq AM ?_;refine Wq (Bh rfl (Aa rfl)) ?_;refine Wq AZ ?_;refine Y0<|Ct<|Ys<|Aj<|AWp.block ?_
         refine Ej 0 5 1 (λl=>Cy (([J++(e.sq.take k).flatMap IZ,J++(e.sq.take k).flatMap IZ++Cv t.1,J++(e.sq.take k).flatMap IZ++Cv t.1++Co t.2]:List (List Nat)).getD l [])) 2 (some 0) (λk=>([7,14]:List Nat).getD k 0) [.o 0,.q (.ptr 2 25),.q (.d (YB e.sq)),.q (.d (ex (.int .i64 (k:Nat)))),.q (.d (Et 184 (Kw t))),.q (.d (Et 184 ((Kw t).drop 0))),.q (.d (AL (HK t.1))),.t 0,.q (.ptr 2 25),.q (.d (YB e.sq)),.q (.d (ex (.int .i64 (k:Nat)))),.q (.d (Et 184 (Kw t))),.q (.d (Et 184 ((Kw t).drop 4))),.q (.d (IU t.2)),.t 1,.o 2] [[],[],[(103,1)],[],[(104,2),(105,3)],[(106,4)],[(107,5)],[(102,0),(108,6)],[],[(110,8)],[],[(111,9),(112,10)],[(113,11)],[(114,12)],[(109,7),(115,13)],[(116,14)]] [(3,.ptr 2 0),(8,.d (ex (.int .i64 (k:Nat))))] [(0,.own 0),(3,.ptr 2 0),(8,.d (ex (.int .i64 (k:Nat))))] Zbz rfl ⟨rfl,rfl,trivial⟩ (λ_ h=>by cases h;rfl) Zcj Zbz rfl Zby ⟨rfl,rfl,rfl,trivial⟩ [.row 5 1 (Cy (J++(e.sq.take k).flatMap IZ++Cv t.1++Co t.2)),.pin [],.var 46 ((Ea e).map .d)] rfl ?_;refine BE<|Yn<|AWp.region<|Wm ?_;refine Wq Eb ?_;refine Wa<|AWl.nil ?_
         refine Am (e.sq.length-(k+1)) Zbx ⟨k+1,by omega,rfl,rfl⟩ ?_;exact Ac ZbN (by(refine HpLe.cons (OwLe.row (by rw[BM IZ Q,<-M,IZ];simp only[List.append_assoc])) ?_);exact HpLe.cons (Ai rfl)<|HpLe.cons (Ad rfl)<|HpLe.nil)
        .obtain rfl:k=e.sq.length:=by omega
         rw[List.take_length,<-xy];refine Aj<|Y1<|Wm ?_;refine Wq AH ?_;refine Wq AM ?_;refine Wq (Bh rfl (Aa rfl)) ?_;refine Wq AR ?_;refine Y0<|Cf<|Cl<|BF<|Ca<|BJ<|Yn<|Y1<|Wm ?_;refine Wq AH ?_;refine Wq AM ?_;refine Wq (Bh rfl (Aa rfl)) ?_;refine Wq (AD (r:=((e.x.length:Nat):Int)) (ao rfl) (Aa rfl) (Aa rfl) (DU Zbx)) ?_
         refine BZ [0] (xE) rfl Zby rfl Zbu Zbt ZbA Zbr rfl ?_;rintro _ _ ⟨rfl,rfl⟩;refine Kr ?_;refine Ba (σ':=⟨[(3,.ptr 2 0),(122,.own 0)],[.row 5 1 (Cy (xd)),.pin [],.var 46 ((Ea e).map .d)]⟩) ?_ ?_
         .exact Ac ZcH Zct
         refine Wa<|Y0<|Aj<|Y1<|Wa<|Y0<|AWp.block ?_
         refine AE (λK f=>∃k,k<=e.x.length/\K=e.x.length-k/\f=⟨[(0,.own 0),(3,.ptr 2 0),(9,.d (ex (.int .i64 (k:Nat))))],[.row 5 1 (Cy (xd++(e.x.take k).flatMap ND)),.pin [],.var 46 ((Ea e).map .d)]⟩) ?le ⟨0,by omega,rfl,rfl⟩ ?round
         case le=>exact Ac ZbN ZcF
         case round=>
          rintro K _ ⟨k,C,rfl,rfl⟩;by_cases Q:k<e.x.length
          .have C:=CG ND Q
           obtain⟨t,M⟩:∃t,t=e.x.getD k default:=⟨_,rfl⟩;have g:=h.x _ (BX Q);rw[<-M]at C g;have S:(ND t).length=(CU Cv t 8).length:=rfl;refine Aj<|Y1<|Wm ?_;refine Wq AH ?_;refine Wq AM ?_;refine Wq (Bh rfl (Aa rfl)) ?_;refine Wq AZ ?_;refine Y0<|Ct<|Ys<|Aj<|AWp.block<|Y1<|Wa<|Y0<|AWp.block ?_
           refine AE (λK f=>∃j,j<=8/\K=8-j/\f=⟨[(0,.own 0),(3,.ptr 2 0),(9,.d (ex (.int .i64 (k:Nat)))),(10,.d (ex (.int .i64 (j:Nat))))],[.row 5 1 (Cy (xd++(e.x.take k).flatMap ND++CU Cv t j)),.pin [],.var 46 ((Ea e).map .d)]⟩) ?lej ⟨0,by omega,rfl,rfl⟩ ?roundj
           case lej=>exact Ac ZdF Zcs
           case roundj=>
            rintro K _ ⟨j,i,rfl,rfl⟩;by_cases q:j<8
            .have U:=ES Cv t q
             have xn:=DX (t j) (g j q) (xd++(e.x.take k).flatMap ND++CU Cv t j) ZbM;refine Aj<|Y1<|Wm ?_;refine Wq AZ ?_;refine Y0<|Ct<|Ys<|Aj<|AWp.block<|AWp.region<|Wm ?_;refine Wq AH ?_;refine Wq AM ?_;refine Wm<|Wm ?_;refine Wq (Hh (k:=k) rfl (ao rfl) (Aa rfl) (Aa rfl) rfl Q M) ?_;refine Wq (JB (k:=j) (ao rfl) (ao rfl) (Aa rfl) (Aa rfl) q) ?_;refine Wq (SR (ao rfl) (Aa rfl) rfl (WL q)) ?_
             refine BZ [0] (xn) rfl Zby rfl Zbu Zbt ZbA Zbr rfl ?_;rintro _ _ ⟨rfl,rfl⟩;refine Kr ?_;refine Wa<|AWl.nil<|BE<|Yn<|AWp.region<|Wm ?_;refine Wq Eb ?_;refine Wa<|AWl.nil ?_
             refine Am (8-(j+1)) Zbx ⟨j+1,by omega,rfl,rfl⟩ ?_;exact Ac ZdF ZdH
            .obtain rfl:j=8:=by omega
             refine Aj<|Y1<|Wm ?_;refine Wq AR ?_;refine Y0<|Cf<|Cl<|BF<|Ca<|BJ<|BE<|Yn<|AWp.region<|Wm ?_;refine Wq Eb ?_;refine Wa<|AWl.nil ?_
             refine Am (e.x.length-(k+1)) Zbx ⟨k+1,by omega,rfl,rfl⟩ ?_;exact Ac ZbN (by(refine HpLe.cons (OwLe.row (by rw[BM ND Q,<-M,<-List.append_assoc];rfl)) ?_);exact HpLe.cons (Ai rfl)<|HpLe.cons (Ad rfl)<|HpLe.nil)
          .obtain rfl:k=e.x.length:=by omega
           rw[List.take_length,<-xA];refine Aj<|Y1<|Wm ?_;refine Wq AH ?_;refine Wq AM ?_;refine Wq (Bh rfl (Aa rfl)) ?_;refine Wq AR ?_;refine Y0<|Cf<|Cl<|BF<|Ca<|BJ<|Yn<|Y1<|Wm ?_;refine Wq AH ?_;refine Wq AM ?_
           refine BZ [0] (xF) rfl Zby rfl Zbu Zbt ZbA Zbr rfl ?_;rintro _ _ ⟨rfl,rfl⟩;refine Kr ?_;refine Wa<|Y0<|BG ?_
           exact Zbc
theorem XP(f:Fct)(h:FW f)(L:(Fz f).length<=1000000000000):Abs Tryz.prog 47 [AL (EN f)] (FC 5 (Fz f)):=by
 simp only[Fz,List.length_append]at L;have g:=A30 f.k h.k [] ZgC;have u:=A1g f.c h.c (FA f.k) Zbx;have A:=A39 f.e h.e (FA f.k++IH f.c) Zdd;refine Ab Tryz.func47 λB=>?_;rw[Tryz.ntmps47];apply Y1;refine Bx ?_;refine Wa<|Y0<|Aj ?_
 refine ZY 5 1 rfl rfl rfl ?_;refine Ej 1 5 1 (λy=>Cy (([[],[],FA f.k,FA f.k++IH f.c,FA f.k++IH f.c++KG f.e]:List (List Nat)).getD y [])) 4 none (λk=>([0,3,6,9]:List Nat).getD k 0) [.t 0,.q (.ptr 0 0),.q (.d (AL (FI f.k))),.t 1,.q (.ptr 0 3),.q (.d (AL (Ef f.c))),.t 2,.q (.ptr 0 12),.q (.d (AL (Ea f.e))),.t 3,.o 4] [[],[],[(4,1)],[(3,0),(5,2)],[],[(7,4)],[(6,3),(8,5)],[],[(10,7)],[(9,6),(11,8)],[(12,9)]] [(1,.ptr 0 0)] [(2,.own 1)] Zbz rfl ⟨rfl,trivial⟩ (λ_ h=>by cases h) (by refine CSteps.m (Aa rfl) (Aa rfl) rfl rfl rfl rfl ?_;refine DV ?_;refine DV ?_;refine LS (g) ?_;refine DV ?_;refine DV ?_;refine LS (u) ?_;refine DV ?_;refine DV ?_;refine LS (A) ?_;refine CSteps.s ?_;exact CSteps.nil) Zbz rfl Zby ⟨rfl,trivial⟩ [.var 48 ((EN f).map .d),.row 5 1 (Cy (FA f.k++IH f.c++KG f.e))] rfl ?_;exact ZeE
theorem ZT(f g:Fct)(A:FW f)(G:FW g)(C:(Fz f).length<=1000000000000)(E:(Fz g).length<=1000000000000):Abs Tryz.prog 13 [AL (EN f),AL (EN g)] (ex (.bool (decide (Fz f=Fz g)))):=by
 have h:=XP f A C;have b:=XP g G E;obtain⟨⟨n,e,p⟩,c,x⟩:=f;obtain⟨⟨u,U,Q⟩,r,P⟩:=g;refine Ab Tryz.func13 λB=>?_;rw[Tryz.ntmps13];refine Go ?_;refine Dy 7 ?_;refine CY ?_;refine⟨_,HStep.q rfl (Gi (l:=Fz ⟨⟨n,e,p⟩,c,x⟩) rfl (Aa rfl) (Aa rfl) (Aa rfl)),?_⟩;refine CY ?_;refine Xq (Gi (l:=Fz ⟨⟨u,U,Q⟩,r,P⟩) rfl (Aa rfl) (Aa rfl) (Aa rfl)) ?_;refine⟨_,HStep.q rfl (A1F (b:=Fz ⟨⟨n,e,p⟩,c,x⟩) (c:=Fz ⟨⟨u,U,Q⟩,r,P⟩) rfl rfl (Sw _) (Sw _)),?_⟩;exact ZfC
end Go.Proofs.YtcikkglcoeedlaaGreat
