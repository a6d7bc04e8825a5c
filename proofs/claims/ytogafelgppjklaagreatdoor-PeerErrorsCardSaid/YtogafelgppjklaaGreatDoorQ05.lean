import Derived.Test.YtogafelgppjklaaGreatDoorQ04
set_option maxHeartbeats 4000000
set_option maxRecDepth 100000
set_option linter.all false
namespace Go.Proofs.YtogafelgppjklaaGreatDoor
open IntKind
open Go.RowKit
section
variable {A:Option Addr} {F G Hl:HL} {L:FL} {N R cap cb ib k m n ni sz:Nat} {S:Setup} {a:Act} {hi li mi:Option Int} {o:Oper} {w:World} {xs:List Inp} (q cc:Nat) (e0 e1 e2 Wh:Int) (ic:Nat)
theorem Iq (N:Nat){l:List Int}{ca:Nat} (cc:Nat)(e0 e1 e2:Int){code:Nat->Ins}(Wh:Int) (ic:Nat)(hS:SetIn F S)(hn:n=(sizeOf S).toNat)(hN:n<=N)(Wb:1<=S.nb/\1<=S.players)(hC:InsB F cb ca m code)(hI:(ib,.rows 3 R (ak bS xs) 24 (0,0))∈F)(UL:S.players=(ni:Int))(hnR:ni<=R)(hr:RefL S l):aeo 96 #[vS q 0 n N,(Setup.v S),.agg #[vS cb ca m cc,vI e0,vI e1,vI e2],vI Wh,vS ib 0 ni ic] (ap [(q,.rows 1 N (ak bD l) 3 (0,0))] []) F (λ u H'=>∃x:RfR,H'=ap [(x.q,.rows 1 x.N (ak bD x.l) 3 (0,0))] []/\(u=.agg #[vS x.q 0 n x.N,.bool x.en,vI x.e.t,vI x.e.i,vI x.e.k,vI x.e.v,.bool x.em]/\n<=x.N/\RefL S x.l)):=by
 have hp:=hS.pl;have WJ:=hS.nb;have Vg:=hS.room;have Va:=cz hS.toSetN
 replace hr:=hr.ok
 refine QS Tryz.func96 mn<|ae 10 [] λ n1=>SP (H9 (q:=q) n (N:=N) N (l:=l) (aw 3) (by omega) (by omega) (by omega)) ?_;rintro _ ⟨b2,c3,l4⟩ ⟨rfl,hN5,hl6⟩;dsimp only at hN5 hl6;have e1_:=hl6 1 (by omega);have YT:=hl6 2 (by omega);have e3_:=hl6 3 (by omega);refine ah 18 [.ix 1,.row 0 1 0] [(0+1*1)=1*1+0/\1<c3,1=((1:Nat):Int)/\1<n] λ _=>aaq (l4.getD 1 0=0) 19 (λ h7=>?_) λ h7=>?_
 ·refine SO 7 (ow 3 16)<|aam [0] [] (Ij b2 c3 l4 Wh ic hS.up hn (by omega) Wb (aC hI) UL hnR (by omega) (by unfold cJ at hr;omega)) ?_;rintro _ r8 ⟨rfl,hN9,aj3⟩;refine ae 3 (ow 1 7) λ _=>aav (ow 1 7) [0] [] ⟨r8,rfl,rfl,hN9,aj3⟩
 ·refine OU 7<|aaq (l4.getD 1 0=1) 26 (λ IN=>?_) λ IN=>?_
  ·refine SO 6 (ow 3 16++(ow 2 4))<|aam [0] [] (Ik b2 c3 l4 cc e0 e1 e2 hS.up hn (by omega) Wb hC.up (by omega) (by unfold cJ at hr;omega)) ?_;rintro _ r12 ⟨rfl,aj9,aj2⟩;refine ae 3 (ow 1 7) λ _=>aav (ow 1 7) [0] [] ⟨r12,rfl,rfl,aj9,aj2⟩
  ·refine OU 7<|aaq (l4.getD 1 0=2) 32 (λ Wg=>?_) λ Wg=>?_
   ·refine SO 6 (ow 3 16++(ow 2 4))<|aam [0] [] (si b2 c3 l4 cc e0 e1 e2 1 0 0 hS.up hn (by omega) hC.up (.inr (.inl rfl))) ?_;rintro _ Wn ⟨rfl,aqJ,afH⟩;refine ae 14 (ow 0 7) λ n19=>cP (Wn.en) 41 (λ XO=>?_) λ XO=>?_
    ·refine SO 4 [.o 0]<|aam [1] [] (jh Wn.q n Wn.N Wn.l 3 (by omega) (by omega)) ?_;rintro _ ⟨⟩ rfl;refine ae 8 (ow 1 7++ow 2 7) λ _=>aav (ow 2 7) [0] [] (qx Wn.q Wn.N (pG Wn.l 3) false ⟨Wn.e.t,Wn.e.i,Wn.e.k,Wn.e.v⟩ Wn.em rfl rfl (by omega) ⟨3,0,0,(Cx.ent (KpR.cx afH)),by unfold cJ;omega⟩)
    ·refine ae 9 (ow 0 7++ow 2 7) λ _=>aav (ow 2 7) [1] [] (qx Wn.q Wn.N Wn.l false ⟨Wn.e.t,Wn.e.i,Wn.e.k,Wn.e.v⟩ Wn.em rfl rfl (by omega) ⟨(l4.getD 1 0),(l4.getD 2 0),(Wn.l.getD 3 0),(KpR.cx afH),by unfold cJ;omega⟩)
   ·refine OU 7<|aaq (l4.getD 1 0=3) 46 (λ Xy=>?_) λ Xy=>?_
    ·refine SO 5 (ow 3 16)<|aam [0] [] (Il b2 c3 l4 hS.up hn (by omega) Wb (by omega) (by unfold cJ at hr;omega)) ?_;rintro _ r22 ⟨rfl,aj7,aj1⟩;refine ae 3 (ow 1 7) λ _=>aav (ow 1 7) [0] [] ⟨r22,rfl,rfl,aj7,aj1⟩
    ·refine OU 7<|aaq (l4.getD 1 0=4) 51 (λ h25=>?_) λ h25=>?_
     ·refine SO 5 (ow 3 16)<|aam [0] [] (Im b2 c3 l4 hS.up hn (by omega) Wb (by omega) (by unfold cJ at hr;omega)) ?_;rintro _ r26 ⟨rfl,aj6,aj0⟩;refine ae 3 (ow 1 7) λ _=>aav (ow 1 7) [0] [] ⟨r26,rfl,rfl,aj6,aj0⟩
     ·refine OU 7<|aaq (l4.getD 1 0=5) 56 (λ h29=>?_) λ h29=>?_
      ·refine SO 5 (ow 3 16)<|aam [0] [] (Io b2 c3 l4 hS.up hn (by omega) Wb (by omega) (by unfold cJ at hr;omega)) ?_;rintro _ r30 ⟨rfl,aj5,ajZ⟩;refine ae 3 (ow 1 7) λ _=>aav (ow 1 7) [0] [] ⟨r30,rfl,rfl,aj5,ajZ⟩
      ·refine OU 7<|aaq (l4.getD 1 0=6) 61 (λ h33=>?_) λ h33=>?_
       ·refine SO 6 (ow 3 16++(ow 2 4))<|aam [0] [] (Ip b2 c3 l4 cc e0 e1 e2 hS.up hn (by omega) Wb hC.up (by omega) (by unfold cJ at hr;omega)) ?_;rintro _ r34 ⟨rfl,agi,ajY⟩;refine ae 3 (ow 1 7) λ _=>aav (ow 1 7) [0] [] ⟨r34,rfl,rfl,agi,ajY⟩
       ·refine SO 8 (ow 3 16)<|aam [0] [] (EW b2 c3 l4 hS.up hn (by omega) Wb (by omega) (by unfold cJ at hr;omega)) ?_;rintro _ r37 ⟨rfl,aj4,ajX⟩;refine ae 3 (ow 1 7) λ _=>aav (ow 1 7) [0] [] ⟨r37,rfl,rfl,aj4,ajX⟩
structure TK where
 q:Nat
 N:Nat
 l:List Int
 A:Option Addr
 m:Nat
 c:Nat
 t:Int
theorem uE{l:List Int}{ca:Nat}{code:Nat->Ins}(hS:SetIn F S)(hn:n=(sizeOf S).toNat)(hN:n<=N)(Wb:1<=S.nb/\1<=S.players)(hC:InsB F cb ca m code)(hI:(ib,.rows 3 R (ak bS xs) 24 (0,0))∈F)(UL:S.players=(ni:Int))(hnR:ni<=R)(hr:RefL S l)(hb:0<=eV S/\eV S<=1000000):aeo 62 #[vS q 0 n N,(Setup.v S),.agg #[vS cb ca m cc,vI e0,vI e1,vI e2],vI Wh,vS ib 0 ni ic] (ap [(q,.rows 1 N (ak bD l) 3 (0,0))] []) F (λ u H'=>∃x:TK,H'=ap [(x.q,.rows 1 x.N (ak bD x.l) 3 (0,0))] []/\(u=.tuple #[vS x.q 0 n x.N,.slice x.A x.m x.c,vI x.t]/\n<=x.N/\RefL S x.l)):=by
 have hp:=hS.pl;have WJ:=hS.nb;have Vg:=hS.room;have Va:=cz hS.toSetN;refine QS Tryz.func62 mn<|ae 17 (ow 1 16) λ n1=>aal (EO S)<|OU 10<|aau<|aat (σ:=Nat×Nat×Nat×List Int×List Eff×Nat×Option Addr×Nat×HL) (λ ⟨k_,q_,N_,l_,Vv,m_,A_,c_,E_⟩=>⟨[(0,vS q_ 0 n N_),(3,vI Wh),(4,vS ib 0 ni ic),(6,vP (n1+0) 0),(7,vP (n1+1) 0),(13,.slice A_ m_ c_),(14,vI (eV S)),(15,vI (k_:Int))],[((n1+1),.lit [vS cb ca m cc,vI e0,vI e1,vI e2] 111 (0,0)),((n1+0),.lit (Setup.l S) 34 (0,0)),(q_,.rows 1 N_ (ak bD l_) 3 (0,0))],[E_],1<=k_/\(k_:Int)<=eV S+1/\n<=N_/\RefL S l_/\Vv.length=m_/\m_<=k_/\SlIs sc 177 Vv A_ c_ E_,(eV S+1-k_).toNat⟩) (1,q,N,l,[],0,none,0,[]) [0,1,2] [0] (⟨by omega,by omega,hN,hr,rfl,by omega,aay _ _⟩) ?_;rintro⟨k_,q_,N_,l_,Vv,m_,A_,c_,E_⟩ ⟨ai6,afG,hN_,Vg,Y1,apy,U7⟩ OF;refine OU 8<|aaq ((k_:Int)<=eV S) 21 (λ h4=>?_) λ h4=>?_
 ·refine ae 12 (ow 1 16++(aab 4)) λ _=>aam [2] [] (Iq q_ N_ cc e0 e1 e2 Wh ic hS.up hn (by omega) Wb hC.up (aC hI) UL hnR Vg) ?_;rintro _ r5 ⟨rfl,hN6,hR7⟩;refine ae 18 (ow 0 9) λ n8=>cP (r5.em) 33 (λ h9=>?_) λ h9=>?_
  ·refine ae 6 (aab 4) λ Wi=>ez HZ [r5.e] 0 0 Y1.symm U7 (by simp;omega) ?_;rintro A11 c12 WC ⟨aa1,aoE⟩;refine SO 9 [.o 1]<|cP (r5.en) 40 (λ U4=>?_) λ U4=>?_
   ·refine ae 11 [] λ _=>aav [] [2] [] ⟨⟨r5.q,r5.N,r5.l,A11,(m_+1),c12,(k_:Int)⟩,rfl,rfl,by omega,hR7⟩
   ·refine ah 9 [.nw] [aI ((k_:Int)+1)] λ _=>OF (k_+1,r5.q,r5.N,r5.l,(Vv++[r5.e]),(m_+1),A11,c12,WC) [3,4,2] [0] ?_
    try dsimp only
    exact⟨⟨by omega,by omega,by omega,hR7,by simp;omega,by omega,aa1⟩,by omega⟩
  ·refine SO 9 [.o 0]<|cP (r5.en) 40 (λ YS=>?_) λ YS=>?_
   ·refine ae 11 [] λ _=>aav [] [1] [] ⟨⟨r5.q,r5.N,r5.l,A_,m_,c_,(k_:Int)⟩,rfl,rfl,by omega,hR7⟩
   ·refine ah 9 [.nw] [aI ((k_:Int)+1)] λ _=>OF (k_+1,r5.q,r5.N,r5.l,Vv,m_,A_,c_,E_) [2,3,1] [0] ?_
    try dsimp only
    exact⟨⟨by omega,by omega,by omega,hR7,Y1,by omega,U7⟩,by omega⟩
 ·refine ae 17 [] λ _=>aav [] [2] [] ⟨⟨q_,N_,l_,A_,m_,c_,i64.wrap ((eV S)+1)⟩,rfl,rfl,by omega,Vg⟩
open Go.Shelf
def bs(x:Option Int)(n d:Nat):Prop:=match x with
 |some z=>z=(n:Int)
 |none=>n=d
def bO(L:FL)(x:Option Operand):Option (Option Int):=match x with
 |none=>some none
 |some v=>match gm L v,eY L v with
  |true,.int .i64 z=>some (some z)
  |_,_=>none
theorem wo{x:Option Operand}{i:Option Int}(he:∀v,gm L v=true->a.eval v=eY L v)(h:bO L x=some i):x.map a.eval=i.map vI:=by
 unfold bO at h;split at h
 ·cases h;rfl
 ·rename_i v;split at h
  ·rename_i z h1 h2;cases h;show some _=some _;rw[he v h1,h2]
  ·cases h
theorem yi{P:Program}{lo mx:Option Int}{l h len:Nat}(o1:bs lo l 0)(o2:bs hi h len)(o3:bs mx m cap)(hx:mx.isSome=true->hi.isSome=true)(h1:l<=h)(h2:h<=m)(h3:m<=cap)(W:World) :
  (Instr.sliceBounds true len cap (lo.map vI) (hi.map vI) (mx.map vI)).run P W=.ok (l,h,m) W:=by
 have b1:∀ (y n:Nat) (c:BoundsCode),n<=y->(Instr.sliceBound (vI (n:Int)) y c).run P W=.ok n W:=by
  intro y n c hny;simp[Instr.sliceBound,asIntOf,hny,go_sem]
 unfold Instr.sliceBounds;cases lo <;> cases hi <;> cases mx <;> simp only[bs] at o1 o2 o3
 all_goals subst o1 o2 o3
 ·simp[aa8]
 ·simp at hx
 ·simp[aa8,b1,h2]
 ·simp[aa8,b1,h2,h3]
 ·simp[aa8,b1,h1]
 ·simp at hx
 ·simp[aa8,b1,h1,h2]
 ·simp[aa8,b1,h1,h2,h3]
def Py(P:Program)(o:Oper)(L:FL):Option (Option Addr×Nat×Nat×Option Int×Option Int×Option Int×Nat):=match o.guard,o.op with
 |none,.slice t x lo hi mx=>match gm L x,P.underlying t,eY L x,bO L lo,bO L hi,bO L mx with
  |true,some (.slice elem),.slice a len cap,some l,some h,some m=>match P.info? elem with
   |some inf=>if m.isSome && h.isNone then none else some (a,len,cap,l,h,m,inf.size)
   |none=>none
  |_,_,_,_,_,_=>none
 |_,_=>none
def RJ(P:Program)(N:Nat)(oo:Option Oper)(s:Cfg):Option (Option Addr×Nat×Nat×Option Int×Option Int×Option Int×Nat):=match oo with
 |some o=>match Py P o s.L,(dK N o.dst undef s.L).isSome with
  |some x,true=>some x
  |_,_=>none
 |none=>none
abbrev Bv(A:Option Addr)(l sz m:Nat):Option Addr:=slA A l sz m
section
variable {r:Option Nat} {P:Program} {N:Nat} {D:List Deferred} {F:HL} {w0:World} {R:HL} {s:Cfg} {Q:Exit->Act->World->Prop}
theorem EY(h:Py P o L=some (A,n,cap,li,hi,mi,sz)) :
  ∃t x lo h' mx elem inf,o.guard=none/\o.op=.slice t x lo h' mx/\gm L x=true/\P.underlying t=some (.slice elem)/\eY L x=.slice A n cap/\bO L lo=some li/\bO L h'=some hi/\bO L mx=some mi/\P.info? elem=some inf/\inf.size=sz/\(mi.isSome=true->hi.isSome=true):=by
 unfold Py at h;split at h
 case h_2=>cases h
 rename_i t x lo h' mx hg ID;split at h
 case h_2=>cases h
 rename_i elem a len cp l1 l2 l3 h1 h2 h3 h4 h5 h6;split at h
 case h_2=>cases h
 rename_i inf h7;split at h
 case isTrue=>cases h
 rename_i h8;simp only[de,df] at h;obtain⟨e1,e2,e3,e4,e5,e6,e7⟩:=h;subst e1;subst e2;subst e3;subst e4;subst e5;subst e6;refine⟨t,x,lo,h',mx,elem,inf,hg,ID,h1,h2,h3,h4,h5,h6,h7,e7,λ g=>?_⟩;cases l2 with
 |some _=>rfl
 |none=>simp[g] at h8
theorem Bw{l h:Nat}(hl:bs li l 0)(hh:bs hi h n)(hm:bs mi m cap)(h1:l<=h)(h2:h<=m)(h3:m<=cap)(hk:RN r P N D F w0 R (db N (.slice (Bv A l sz m) (h-l) (m-l)) s) Q)
  (hc:RJ P N (fZ s) s=some (A,n,cap,li,hi,mi,sz):=by kernel_rfl):RN r P N D F w0 R s Q:=by
 unfold RJ at hc;split at hc
 case h_2=>cases hc
 rename_i o q0;split at hc
 case h_2=>cases hc
 rename_i y hv hp;simp only[de] at hc;rw[hc] at hv;clear hc;obtain⟨t,x,lo,h',mx,elem,inf,q1,q2,q3,q4,q5,q6,q6',aet,q7,q8,q9⟩:=EY hv;refine⟨λ hR aa w hF aT hB=>?_⟩;obtain⟨c,k,L,Bs,Ts⟩:=s;unfold fZ at q0;cases c with
 |code c=>cases q0
 |ex c=>cases q0
 |drw _ _=>cases q0
 |ops ops pc=>
  simp only at q0 q3 q5 q6 q6' aet hp hF aT;have iF:ops.toList.drop pc=o::ops.toList.drop (pc+1):=by
   have g_:pc<ops.toList.length:=(bt.1 q0).1;rw[eB g_,(bt.1 q0).2]
  show wpListIn _ _ _ _ _ _ _ _;rw[iF,wpListIn,if_pos (by simp[Region.wanted,q1])];refine⟨λ _ _=>trivial,?_⟩;have key:cI P o aa w λ u w'=>u=.slice (Bv A l sz m) (h-l) (m-l)/\Rel (ap Bs Ts++F) w'/\Below 0 w w':=by
   have e1:=(hF.eval q3).trans q5;have he:∀v,gm L v=true->aa.eval v=eY L v:=λ v hv=>hF.eval hv;have k1:=yi (P:=P) hl hh hm q9 h1 h2 h3 w;rw[<- wo he q6,<- wo he q6',<- wo he aet] at k1;have k2:=λ W=>cO q7 W;have k3:=λ W=>aG q4 W;unfold cI;have he:(execOp aa.eval o).run P w=.ok (.value (.slice (Bv A l sz m) (h-l) (m-l))) w:=by
    simp[execOp,q2,Instr.sliceAt,Instr.slice,e1,k3,Go.sizeOf,k2,aa8,k1,Bv,Go.Proofs.YtogafelgppjklaaGreatDoor.slA,q8]
   rw[he];exact⟨rfl,aT,go _ _⟩
  refine dT (by rw[q2];intro c hc;cases hc) key ?_;rintro u w' ⟨rfl,By,VL⟩;obtain⟨L',p1⟩:=b7 hp (.slice (Bv A l sz m) (h-l) (m-l));have hh:=hk.h hR;have UF:db N (.slice (Bv A l sz m) (h-l) (m-l)) ⟨.ops ops pc,k,L,Bs,Ts⟩=⟨.ops ops (pc+1),k,L',Bs,Ts⟩:=by
   unfold db;simp only[q0,p1]
  rw[UF] at hh;exact hh _ w' (hF.put p1) By (hB.trans VL)
end
abbrev yj(S:Setup)(l:List Value):Value:=.agg ⟨Setup.l S++l⟩
theorem Pz{l:List Int}{d:Int}(h:k<l.length):l.getD k d∈l:=by
 rw[aaG,aaP h];exact acY h
theorem Mq{ts:List Int}{t:Int}(h:ts.length=n)(hk:∀j,j<n->¬ ts.getD j bD.dflt=t):t∉ts:=λ hm=>by
 obtain⟨j,hj,e⟩:=List.getElem_of_mem hm;exact hk j (by omega) (by rw[aaG,aaP hj];exact e)
theorem uF(S:Setup)(VY VZ Aro WD WE WG:Option Addr)(VQ VW VS VX nro cro Wo Wz Wp WA Wq WB:Nat)(Xl Vl UY:Int)(A A2:Option Addr)(n c c2:Nat)(ts:List Int)(ls:List Inp)(tk:Int)(hl:RowL bD 3 F A n ts)(Vo:RowL bS 24 F A2 n ls)(hn:n<=1000000):aeo 39 #[(yj S [.slice VY VQ VW,.slice VZ VS VX,vI Xl,vI Vl,.slice Aro nro cro,.slice WD Wo Wz,.slice WE Wp WA,.slice WG Wq WB,.slice A n c,.slice A2 n c2,vI UY]),vI tk] [] F (λ u H'=>∃x:Inp×Bool,H'=ap [] []/\(u=.tuple #[.agg #[vI x.1.dx,vI x.1.dy,vI x.1.act],.bool x.2]/\(x.2=true↔tk∈ts))):=by
 refine QT Tryz.func39<|ae 14 [] λ n1=>aat (σ:=Nat) (λ k_=>⟨[(1,vI tk),(2,vP (n1+0) 0),(4,vP (n1+1) 0),(6,vI (k_:Int))],[((n1+1),.lit [vI 0,vI 0,vI 0] 24 (0,0)),((n1+0),.lit (Setup.l S++[.slice VY VQ VW,.slice VZ VS VX,vI Xl,vI Vl,.slice Aro nro cro,.slice WD Wo Wz,.slice WE Wp WA,.slice WG Wq WB,.slice A n c,.slice A2 n c2,vI UY]) 50 (0,0))],[],k_<=n/\∀j_,j_<k_->¬ ts.getD j_ bD.dflt=tk,n-k_⟩) 0 [0,1] [] (⟨aaJ _,λ j_ h_=>absurd h_ (pt _)⟩) ?_;rintro k_ ⟨YJ,WJ⟩ OF;refine SO 10 [.o 1]<|aaq ((k_:Int)<(n:Int)) 11 (λ h4=>?_) λ h4=>?_
 ·refine ae 10 [.o 1] λ _=>?_;obtain⟨qx5,VP,Nx5,fx5,agy,VM,X1,afq,ZG⟩:=hl.at (k:=k_) (by omega);refine aM 15 (congrArg (λ v_=>(.slice v_ n c:Value)) VM)<|RN.ro (λ _=>(mc X1 mn))<|ah 2 [.ix k_,.rorow 0 (VP+k_) 0] [(VP*1+k_*1)=(VP+k_)*1+0/\(VP+k_)<Nx5,(k_:Int)=((k_:Nat):Int)/\k_<n] λ _=>aM 18 (congrArg (λ v_=>(vI v_:Value)) ZG)<|OU 4<|aaq ((ts.getD k_ bD.dflt)=tk) 20 (λ h6=>?_) λ h6=>?_
  ·refine ae 6 [.o 1] λ _=>?_;obtain⟨qx7,U6,Nx7,fx7,akG,abx,acH,aiF,afP⟩:=Vo.at (k:=k_) (by omega);refine aM 22 (congrArg (λ v_=>(.slice v_ n c2:Value)) abx)<|RN.ro (λ _=>(mc X1 (mc acH mn)))<|ah 6 [.ix k_,.rorow 1 (U6+k_) 0,.rorow 1 (U6+k_) 1,.rorow 1 (U6+k_) 2,.o 0,.o 0,.o 0] [((U6*3+k_*3)+2)=(U6+k_)*3+2/\(U6+k_)<Nx7,((U6*3+k_*3)+1)=(U6+k_)*3+1/\(U6+k_)<Nx7,(U6*3+k_*3)=(U6+k_)*3+0/\(U6+k_)<Nx7,(k_:Int)=((k_:Nat):Int)/\k_<n] λ _=>aav (aab 3) [] [] ⟨(⟨(fx7.getD (U6+k_) bS.dflt).dx,(fx7.getD (U6+k_) bS.dflt).dy,(fx7.getD (U6+k_) bS.dflt).act⟩,true),rfl,rfl,iff_of_true rfl (h6▸Pz (by have:=hl.len;omega))⟩
  ·refine ah 9 [.nw] [aI ((k_:Int)+1)] λ _=>OF (k_+1) [0,1] [] ?_
   try dsimp only
   refine⟨⟨by omega,λ j_ hj_=>?_⟩,by omega⟩;rcases aaV j_ k_ with h_|h_
   ·exact WJ j_ h_
   ·obtain rfl:j_=k_:=by omega
    exact h6
 ·refine ae 13 (aab 3) λ _=>aav (aab 3) [] [] ⟨(⟨0,0,0⟩,false),rfl,rfl,iff_of_false (by decide) (Mq hl.len λ j_ h_=>WJ j_ (by omega))⟩
theorem uG(S:Setup)(VY VZ WD WE WG:Option Addr)(VQ VW VS VX Wo Wz Wp WA Wq WB:Nat)(Vl UY:Int)(me tk:Int)(UL:S.players=(ni:Int))(X8:1<=ni)(X7:ni<=1000000)(htk:0<=tk):aeo 60 #[(yj S [.slice VY VQ VW,.slice VZ VS VX,vI me,vI Vl,.slice none 0 0,.slice WD Wo Wz,.slice WE Wp WA,.slice WG Wq WB,.slice none 0 0,.slice none 0 0,vI UY]),vI tk] (ap [] []) F (λ u H'=>∃x:Nat×Nat×List Inp,H'=ap [(x.1,.rows 3 x.2.1 (ak bS x.2.2) 24 (0,0))] []/\(u=vS x.1 0 ni x.2.1/\ni<=x.2.1)):=by
 refine QT Tryz.func60<|ae 16 [.o 0] λ n1=>aaq (tk<0) 14 (λ h2=>?_) λ h2=>?_
 ·(exfalso;omega)
 ·refine OU 15<|aau<|aat (σ:=Nat×List Inp×Option Addr×Nat×HL) (λ ⟨k_,xs_,A_,c_,E_⟩=>⟨[(1,vI tk),(2,vP (n1+0) 0),(5,.slice A_ k_ c_),(6,vI (k_:Int))],[((n1+0),.lit (Setup.l S++[.slice VY VQ VW,.slice VZ VS VX,vI me,vI Vl,.slice none 0 0,.slice WD Wo Wz,.slice WE Wp WA,.slice WG Wq WB,.slice none 0 0,.slice none 0 0,vI UY]) 50 (0,0))],[E_],k_<=ni/\xs_.length=k_/\SlIs bS 24 xs_ A_ c_ E_/\aX A_,ni-k_⟩) (0,[],none,0,[]) [0] [0] (⟨aaJ _,rfl,aay _ _,trivial⟩) ?_;rintro⟨k_,xs_,A_,c_,E_⟩ ⟨YJ,UD,U7,Va⟩ YA;refine SO 10 [.o 0]<|aaq ((k_:Int)<S.players) 24 (λ h5=>?_) λ h5=>?_
  ·refine ae 33 (aab 3++[.o 1,.o 1]) λ n6=>aaq ((k_:Int)=me) 47 (λ h7=>?_) λ h7=>?_
   ·refine SO 5 (ow 1 27)<|SP (uF S VY VZ none WD WE WG VQ VW VS VX 0 0 Wo Wz Wp WA Wq WB me Vl UY none none 0 0 0 [] [] tk (.zero _) (.zero _) (by decide)) ?_;rintro _ x8 ⟨rfl,ho9⟩;refine ae 13 (aab 3) λ Wi=>cP (x8.2) 54 (λ IN=>?_) λ IN=>?_
    ·exact absurd (ho9.1 IN) (List.not_mem_nil)
    ·refine ae 7 (ow 1 3) λ n12=>ez fM [(⟨0,0,0⟩:Inp)] 0 0 UD.symm U7 (by simp;omega) ?_;rintro A13 c14 VN ⟨YE,aeS⟩;refine ah 9 [.nw] [aI ((k_:Int)+1)] λ _=>YA (k_+1,xs_++[(⟨0,0,0⟩:Inp)],A13,c14,VN) [3] [0] ?_
     try dsimp only
     exact⟨⟨by omega,by simp;omega,YE,aeS Va⟩,by omega⟩
   ·refine ae 7 (aab 3) λ n18=>ez fM [(⟨0,0,0⟩:Inp)] 0 0 UD.symm U7 (by simp;omega) ?_;rintro A19 c20 T21 ⟨aip,ahX⟩;refine ah 9 [.nw] [aI ((k_:Int)+1)] λ _=>YA (k_+1,xs_++[(⟨0,0,0⟩:Inp)],A19,c20,T21) [2] [0] ?_
    try dsimp only
    exact⟨⟨by omega,by simp;omega,aip,ahX Va⟩,by omega⟩
  ·refine ae 12 [] λ _=>?_;obtain⟨b_,r_,rfl,rfl,Yq⟩:=U7.open0 Va (by decide) (by omega);obtain rfl:k_=ni:=by omega
   exact aav [] [] [0] ⟨(b_,c_,xs_++r_),rfl,rfl,by dsimp only;omega⟩
section
variable {α:Type} (e:Enc α)
def SlX(T:TypeId)(l:List α)(A:Option Addr)(cap:Nat)(Hl:HL):Prop :=
 (A=none/\cap=0/\l=[]/\Hl=[])\/∃b o M full,A=some ⟨b,o*e.w,none⟩/\Hl=[(b,.rows e.w M (ak e full) T (0,0))]/\full.length=M/\o+cap<=M/\l.length<=cap/\(full.drop o).take l.length=l
theorem SlX.nil(T:TypeId):SlX e T [] none 0 []:=.inl ⟨rfl,rfl,rfl,rfl⟩
end
section
variable {α:Type} {e:Enc α} {T:TypeId} {l xs:List α} {A:Option Addr} {cap:Nat} {Hl F:HL}
theorem SlIs.x(h:SlIs e T l A cap Hl):SlX e T l A cap Hl:=by
 rcases h with h|⟨b,o,full,h1,h2,h3,h4,h5⟩
 ·exact .inl h
 ·exact .inr ⟨b,o,o+cap,full,h1,h2,h3,aaI _,h4,h5⟩
theorem SlX.len(h:SlX e T l A cap Hl):l.length<=cap:=by
 rcases h with ⟨_,rfl,rfl,_⟩|⟨b,o,M,full,h1,h2,h3,h4,h5,h6⟩
 ·simp
 ·exact h5
theorem SlX.toRowL(h:SlX e T l A cap Hl)(hF:∀x∈Hl,x∈F):RowL e T F A l.length l:=by
 rcases h with ⟨rfl,rfl,rfl,rfl⟩|⟨b,o,M,full,rfl,rfl,h1,hM,h2,h3⟩
 ·exact .zero _
 ·refine .rows b o M full (0,0) _ l (hF _ (jt.2 rfl)) (by omega) rfl (λ k hk=>?_);have h4:((full.drop o).take l.length)[k]?=l[k]?:=by rw[h3]
  rw[abe,if_pos hk,abd] at h4;rw[aaG,aaG,h4]
theorem SlX.cut(hs:SlX e T xs A cap Hl){h:Nat}(h1:k<=h)(h2:h<=xs.length)(h3:h<=m)(h4:m<=cap):SlX e T ((xs.take h).drop k) (Bv A k e.w m) (m-k) Hl:=by
 rcases hs with ⟨rfl,rfl,rfl,rfl⟩|⟨b,o,M,full,rfl,rfl,g1,g2,g3,g4⟩
 ·refine .inl ⟨?_,by omega,by simp,rfl⟩;unfold Bv slA;split <;> rfl
 ·have hl:((xs.take h).drop k).length=h-k:=by simp;omega
  by_cases hc:m=k
  ·refine .inr ⟨b,o,M,full,by unfold Bv slA;rw[if_pos hc],rfl,g1,by omega,by rw[hl];omega,?_⟩;have:(xs.take h).drop k=[]:=aaU (by rw[hl];omega);rw[this];simp
  ·refine .inr ⟨b,o+k,M,full,?_,rfl,g1,by omega,by rw[hl];omega,?_⟩
   ·unfold Bv slA;rw[if_neg hc,abK,gO rfl];simp[tK,abX]
   ·rw[hl];have:(xs.take h).drop k=((full.drop o).take xs.length |>.take h).drop k:=by rw[g4]
    rw[this,adR,List.drop_take,adm,adY h2]
end
section
variable {α:Type} {e:Enc α} {P:Program} {t tx ty T:TypeId} {inf:TypeInfo} {z:Value}
theorem Bz(ok:EncOk e P T inf z)(ht:P.underlying t=some (.slice T)){l:List α}(h:SlX e T l A cap Hl)(hR:Rel (Hl++G) w){src:List α}{x:Value}
  (hs:Src P inf.size tx x src.length (aq e src) w) (hb:l.length+src.length<=100000000) :
  ∃A' bY rW w',(Builtin.append_ #[t,tx] ty #[.slice A l.length cap,x]).run P w=.ok (.slice A' (l.length+src.length) bY) w'/\(SlX e T (l++src) A' bY rW/\(aX A->aX A'))/\Rel (rW++G) w'/\Below 0 w w':=by
 have hby:=ok.bytes;have Wu:∀c,c<l.length+src.length->Builtin.nextslicecap (l.length+src.length) c*inf.bytes<=281474976710656:=λ c hc=>by
  have h1:=ii c hc;have h2:Builtin.nextslicecap (l.length+src.length) c*inf.bytes<=(2*100000000+192)*1000:=ad7 (by omega) hby;omega
 have grow:∀ (hg:cap<l.length+src.length) (hold:(Builtin.firstCells inf.size l.length (.slice A l.length cap)).run P w.drew=.ok (aq e l).toArray w.drew),∃A' bY rW w',(Builtin.append_ #[t,tx] ty #[.slice A l.length cap,x]).run P w=.ok (.slice A' (l.length+src.length) bY) w'/\(SlX e T (l++src) A' bY rW/\(aX A->aX A'))/\Rel (rW++G) w'/\Below 0 w w':=by
  intro hg hold;have f_:=run_append_grow_src (P:=P) w t tx ty T inf z ht ok.info ok.zero A l.length cap (aq e l) hold x src.length (aq e src) hs hg (by omega) (Wu cap hg);have VT:=grownCap_ge w (l.length+src.length) cap T;generalize grownCap w (l.length+src.length) cap T=nc at *;refine⟨_,nc,[(w.heap.size,.rows e.w (0+nc) (ak e (l++src++List.replicate (nc-(l.length+src.length)) e.dflt)) T (0,0))],_,f_,⟨.inr ⟨w.heap.size,0,0+nc,l++src++List.replicate (nc-(l.length+src.length)) e.dflt,by simp,rfl,by simp;omega,by omega,by simp;omega,by rw[adl,WF (by simp),abF (by simp)]⟩,λ _=>rfl⟩,?_,?_⟩
  ·have Wm:Rel G w:=hR.drop;have:=(Rel.cons (.rows e.w (0+nc) (ak e (l++src++List.replicate (nc-(l.length+src.length)) e.dflt)) T (0,0)) (o:=.cells ((aq e l++aq e src).toArray++Builtin.zeroCells z.cells (nc-(l.length+src.length))) T (0,0)) ?_ (Wm.world (w':=w.drew) rfl))
   ·exact this
   ·show Obj.cells _ _ _=_;congr 1;apply Array.ext';show bq _ _ _=_;have hl:0+nc=(l++src++List.replicate (nc-(l.length+src.length)) e.dflt).length:=by simp;omega
    rw[hl,gR,aQ,aQ,acM,lK ok]
  ·exact⟨rfl,rfl,rfl,by simp,λ k hk=>by omega⟩
 rcases h with ⟨rfl,rfl,rfl,rfl⟩|⟨b,o,M,full,rfl,rfl,Vc,hM,hle,hl⟩
 ·-- nil
  rcases abI src.length with h0|h0
  ·obtain rfl:src=[]:=aaU h0;refine⟨none,0,[],w,?_,⟨.inl ⟨rfl,rfl,by simp,rfl⟩,λ h=>h⟩,hR,go _ _⟩;have hc:(Builtin.firstCells inf.size 0 x).run P w=.ok #[] w:=hs.cells;rcases hs.kind with ⟨e',hk⟩|hk <;> simp[Builtin.append_,run_underlying ht,run_underlying hk,Go.sizeOf,typeInfo,ok.info,hs.len,hc]
  ·exact grow (by simp;omega) (by simp[aq];exact run_firstCells_none w.drew inf.size 0 0 0)
 ·have Wc:=hR.holds _ (aaC G (aaD));simp only[Blk.den] at Wc;have Xt:(bq e.w (ak e full) M).length=M*e.w:=cm;have Q_:bq e.w (ak e full) M=aq e full:=by rw[<- Vc];exact gR e full
  by_cases AT:l.length+src.length<=cap
  ·-- there is room
   have RW:=ok.size;have Wk:(aq e src).length=src.length*e.w:=aE e src;have VI:o*e.w+l.length*inf.size+(aq e src).length<=M*e.w:=by
    rw[Wk,RW,<- abX,<- abX];exact ab0 _ (by omega)
   have L_:∀j,j<(aq e src).length->(w.cell? ⟨b,o*e.w+l.length*inf.size+j,none⟩).isSome=true:=λ j hj=>by
    simp[World.cell?,Wc,Xt];omega
   have ZH:∀j,j<(aq e src).length->w.frozen? ⟨b,o*e.w+l.length*inf.size+j,none⟩=false:=λ j hj=>by simp[World.frozen?,Wc]
   have f_:=run_append_room_src (P:=P) w t tx ty T inf ht ok.info b (o*e.w) l.length cap x src.length (aq e src) hs AT L_ ZH;have ZP:=i5 b (aq e src) (o*e.w+l.length*inf.size) w _ _ _ Wc;have Xw:lJ (bq e.w (ak e full) M) (o*e.w+l.length*inf.size) (aq e src)=aq e (full.take (o+l.length)++src++full.drop (o+l.length+src.length)):=by
    apply abP;intro j;rw[nN _ _ _ (by rw[Xt];exact VI),Q_,aQ,aQ];have c1:(aq e (full.take (o+l.length))).length=(o+l.length)*e.w:=by rw[aE,aaL];congr 1;omega
    have c0:o*e.w+l.length*inf.size=(o+l.length)*e.w:=by rw[RW,<- abX]
    have V4:aq e full=aq e (full.take (o+l.length))++aq e (full.drop (o+l.length)):=by rw[<- aQ,abg]
    have WQ:aq e (full.drop (o+l.length))=aq e ((full.drop (o+l.length)).take src.length)++aq e (full.drop (o+l.length+src.length)):=by
     rw[<- aQ,show o+l.length+src.length=(o+l.length)+src.length from rfl,<- adm (i:=src.length) (j:=o+l.length),abg]
    have c2:(aq e ((full.drop (o+l.length)).take src.length)).length=src.length*e.w:=by rw[aE,aaL,aaM];congr 1;omega
    rw[c0]
    by_cases h1:j<(o+l.length)*e.w
    ·rw[if_neg (by omega),V4,aaF,aaQ (by omega),aaQ (by omega)]
    ·by_cases h2:j<(o+l.length)*e.w+src.length*e.w
     ·rw[if_pos (by omega),aaF,aaR (by omega),aaQ (by omega),c1]
     ·rw[if_neg (by omega),V4,WQ,aaF,aaR (by omega),aaR (by omega),aaR (by omega),aaR (by omega),c1,c2,Wk]
   have ZJ:(full.take (o+l.length)++src++full.drop (o+l.length+src.length)).length=M:=by simp;omega
   refine⟨_,cap,[(b,.rows e.w M (ak e (full.take (o+l.length)++src++full.drop (o+l.length+src.length))) T (0,0))],_,f_,⟨.inr ⟨b,o,M,_,rfl,rfl,ZJ,hM,by simp;omega,?_⟩,λ h=>h⟩,?_,i7 _ _ _ _⟩
   ·have h1:full.take (o+l.length)=full.take o++l:=by rw[List.take_add,hl]
    rw[h1,aaF,aaF,abH (by simp;omega),ab4 (by rw[aaL];omega),abz,<- aaF];rw[WF (by simp)];exact abF (by simp)
   ·refine⟨?_,by have:=hR.nodup;simpa using this⟩;intro y hy;rcases abs.1 hy with rfl|hy
    ·rw[ZP,Xw];simp only[Blk.den];rw[<- ZJ,gR]
    ·have DO:y.1≠b:=by
      have:=hR.nodup;simp only[abl,abz,ab7,adG] at this;intro e1;exact this.1 (by rw[<- e1];exact acO hy)
     rw[i6 b _ _ _ _ DO];exact hR.holds y (aaB _ hy)
  ·refine grow (by omega)<|run_firstCells_some w.drew inf.size l.length ⟨b,o*e.w,none⟩ l.length cap (aq e l) (by rw[aE,ok.size]) ?_;intro j u hj;have Xa:j<(aq e l).length:=(bt.1 hj).1;rw[aE] at Xa;have UE:aq e l=((aq e full).drop (o*e.w)).take (l.length*e.w):=by
    have h1:aq e full=aq e (full.take o)++(aq e l++aq e ((full.drop o).drop l.length)):=by
     rw[<- aQ,<- aQ];congr 1
     conv=>lhs;rw[<- abg o full]
     congr 1
     conv=>lhs;rw[<- abg l.length (full.drop o)]
     rw[hl]
    have c1:(aq e (full.take o)).length=o*e.w:=by rw[aE,aaL];congr 1;omega
    rw[h1,abH (by omega),ab4 (by omega),abz,WF (by rw[aE];exact aaI _),abF (by rw[aE];exact aaI _)]
   rw[Addr.add_lit];show World.cell? w ⟨b,o*e.w+j,none⟩=some u;simp only[World.cell?,Wc,Q_];rw[UE,abe,if_pos (by omega),abd] at hj;simpa using hj
theorem sj{D:List Deferred}{H:HL}(ok:EncOk e P T inf z){a1 a2:Operand}(ID:o.op=.call { callee:=.builtin .append,args:=#[a1,a2],argTypes:=#[t,tx] })(ht:P.underlying t=some (.slice T))
  {l src:List α} {x:Value} (hi:(gm L a1 && gm L a2)=true) (h1:eY L a1=.slice A n cap) (hn:n=l.length) (h2:eY L a2=x) (oF:(Hl++G).Perm H) (WR:SlX e T l A cap Hl)
  (hs:∀w,Rel (H++F) w->Src P inf.size tx x src.length (aq e src) w) (hb:l.length+src.length<=100000000) (hF:Fm N D L a) (hR:Rel (H++F) w) :
  cI P o a w λ u w'=>∃y:Option Addr×Nat×HL,(u=.slice y.1 (n+src.length) y.2.1/\(SlX e T (l++src) y.1 y.2.1 y.2.2/\(aX A->aX y.1)))/\Rel ((y.2.2++G)++F) w'/\Below 0 w w':=by
 subst hn;simp only[aaW] at hi;have e1:=(hF.eval hi.1).trans h1;have e2:=(hF.eval hi.2).trans h2;have By:Rel (Hl++(G++F)) w:=by rw[<- aaF];exact hR.perm (oF.append_right F)
 obtain⟨A',bY,rW,w',r1,r2,r3,r4⟩:=Bz (ty:=o.type) ok ht WR By (hs w hR) hb;unfold cI;have f_:(execOp a.eval o).run P w=.ok (.value (.slice A' (l.length+src.length) bY)) w':=by
  simp[execOp,ID,resolve,invoke,builtin,aa8,e1,e2,r1]
 rw[f_];exact⟨(A',bY,rW),⟨rfl,r2⟩,by rw[aaF];exact r3,r4⟩
end
section
variable {r:Option Nat} {P:Program} {N:Nat} {D:List Deferred} {F:HL} {w0:World} {R:HL} {s:Cfg} {Q:Exit->Act->World->Prop} {hards:List Nat} {Rd:HL}
variable {α:Type} {e:Enc α} {T:TypeId} {inf:TypeInfo} {z:Value}
theorem RN.appX(ok:EncOk e P T inf z)(l src:List α)(j p:Nat)(hn:n=l.length)(WR:SlX e T l A cap Hl)(hb:l.length+src.length<=100000000)
  (hk:∀ (A':Option Addr) (bY:Nat) (rW:HL),(SlX e T (l++src) A' bY rW/\(aX A->aX A'))->RN r P N D F w0 R (N7 j rW (db N (.slice A' (n+src.length) bY) s)) Q)
  (h:Er P N j p (fZ s) s=some (A,n,cap,T,src.length,aq e src,Hl,Es p s):=by kernel_rfl):RN r P N D F w0 R s Q:=by
 obtain⟨o,a1,a2,t,tx,e',c',b,ty,fz,q0,q1,q2,q3,q4,q5,q6,q7,q8,q9,P_,U5⟩:=mC h;refine⟨λ hR a w hF aT hB=>?_⟩;obtain⟨c,k,L,B,Ts⟩:=s;unfold fZ at q0;cases c with
 |code c=>cases q0
 |ex c=>cases q0
 |drw _ _=>cases q0
 |ops ops i=>
  simp only at q0 q3 q4 q5 q8 q9 P_ U5 hF aT;have iF:ops.toList.drop i=o::ops.toList.drop (i+1):=by
   have g_:i<ops.toList.length:=(bt.1 q0).1;rw[eB g_,(bt.1 q0).2]
  show wpListIn _ _ _ _ _ _ _ _;rw[iF,wpListIn,if_pos (by simp[Region.wanted,q1])];refine⟨λ _ _=>trivial,?_⟩;have oF:=fW (A:=B) q9 P_;refine dT (by rw[q2];intro c hc;cases hc) (sj (x:=vS b 0 src.length c') (src:=src) (G:=B++((oth [j] Ts.length).filterMap (Ts[·]?)).flatten) ok q2 q6 q3 q4 hn q5 oF WR (λ w hw=>qW ok q7 p (by rw[aaQ (bt.1 q8).1];exact q8) hw) hb hF aT) ?_;rintro u w' ⟨⟨A',bY,rW⟩,⟨rfl,XX⟩,By,VL⟩;obtain⟨L',p1⟩:=b7 U5 (.slice A' (n+src.length) bY);have hh:=(hk A' bY rW XX).h hR;have UF:db N (.slice A' (n+src.length) bY) ⟨.ops ops i,k,L,B,Ts⟩=⟨.ops ops (i+1),k,L',B,Ts⟩:=by
   unfold db;simp only[q0,p1]
  rw[UF] at hh;refine hh _ w' (hF.put p1) (By.perm (aaT F ?_)) (hB.trans VL);show (B++(rW::(oth [j] Ts.length).filterMap (Ts[·]?)).flatten).Perm _;rw[aa6,<- aaF,<- aaF];exact aaT _ aaS
theorem RDO.appX{i:Nat}(ix:List Nat)(ok:EncOk e P T inf z)(l src:List α)(j p:Nat)(hn:n=l.length)(WR:SlX e T l A cap Hl)(hb:l.length+src.length<=100000000)
  (hk:∀ (A':Option Addr) (bY:Nat) (rW:HL),(SlX e T (l++src) A' bY rW/\(aX A->aX A'))->RD r P N D F w0 R hards Rd (N7 j rW (qI N i (.slice A' (n+src.length) bY) s)) Q)
  (h:Er P N j p (jd i s) s=some (A,n,cap,T,src.length,aq e src,Hl,Es p s):=by kernel_rfl) (hx:(hards.contains i,vZ ix s)=(true,Rd):=by kernel_rfl):RDO r P N D F w0 R hards Rd i s Q:=by
 obtain⟨o,a1,a2,t,tx,e',c',b,ty,fz,q0,q1,q2,q3,q4,q5,q6,q7,q8,q9,P_,U5⟩:=mC h;obtain⟨c,k,L,B,Ts⟩:=s;unfold jd at q0;simp only[df] at hx;cases c with
 |code c=>cases q0
 |ex c=>cases q0
 |ops _ _=>cases q0
 |drw ops li=>
  refine⟨λ hR=>?_⟩;simp only at q0 q3 q4 q5 q8 q9 P_ U5;have oF:=fW (A:=B) q9 P_;have UF:∀v L',dK N o.dst v L=some L'->qI N i v ⟨.drw ops li,k,L,B,Ts⟩=⟨.drw ops (aO li i true),k,L',B,Ts⟩:=by
   intro v L' hl;unfold qI;simp only[q0,hl]
  refine(jX (Q:=Q) (by simpa using q0) (σ:=Option Addr×Nat×HL) (λ u y=>u=.slice y.1 (n+src.length) y.2.1/\(SlX e T (l++src) y.1 y.2.1 y.2.2/\(aX A->aX y.1))) (λ y=>ap B (y.2.2::(oth [j] Ts.length).filterMap (Ts[·]?))) U5 (λ a hF=>⟨by simp[Region.wanted,q1],λ w aT hB=>?_⟩) (λ y=>⟨λ hi=>?_,λ hi x hm=>aaC _ (qh ix hx.2 x hm)⟩) ?_:RDO r P N D F w0 R hards Rd i ⟨.drw ops li,k,L,B,Ts⟩ Q).h hR
  ·refine dS (sj (x:=vS b 0 src.length c') (src:=src) (G:=B++((oth [j] Ts.length).filterMap (Ts[·]?)).flatten) ok q2 q6 q3 q4 hn q5 oF WR (λ w hw=>qW ok q7 p (by rw[aaQ (bt.1 q8).1];exact q8) hw) hb hF aT) ?_;rintro u w' ⟨y,h3,By,VL⟩;refine⟨y,h3,By.perm (aaT F ?_),VL⟩;show (B++(y.2.2::(oth [j] Ts.length).filterMap (Ts[·]?)).flatten).Perm _;rw[aa6,<- aaF,<- aaF];exact aaT _ aaS
  ·exact absurd (abC.1 hx.1) hi
  ·rintro u ⟨A',bY,rW⟩ ⟨rfl,h3⟩ L' hl hs;have h1:=(hk A' bY rW h3).h hR;rw[UF _ L' hl] at h1;exact h1 hs
end
end
section
variable {A:Option Addr} {F Hl:HL} {a cap mb n rb tq w:Nat} {full:List (Int×Int)} {g g':Gm} {ms:List Int} {α:Type} (S:Setup) (e:Int) (t:Stp) (o:Nat) (k:Int) (m:Mot) (M:MemS) (self:Int) (l_:List (Int×Int)) (other b_:Int)
def lH:Enc (Int×Int):=⟨2,λ p k=>match k with|0=>vI p.1|_=>vI p.2,(0,0)⟩
noncomputable def RK:TypeInfo:=match Tryz.prog.info? 171 with | some i=>i | none=>⟨.bool,"",0,0,false,0,0,none,false,#[]⟩
noncomputable def RL:Value:=match RK.zero with|some z=>z|none=>.bool false
theorem Ow:EncOk lH Tryz.prog 171 RK RL where
 info:=by kernel_rfl
 zero:=by kernel_rfl
 size:=by kernel_rfl
 zsize:=by kernel_rfl
 zcell:=λ k hk=>by
  have h:∀k<2,RL.cells[k]?=some (lH.cell lH.dflt k):=by intro k hk;(iterate 2 (rcases k with _|k;· kernel_rfl));omega
  exact h k hk
 one:=λ x k=>by unfold lH;dsimp only;split <;> rfl
 bytes:=aaH (by kernel_rfl)
def rh:Nat->List Int->List (Int×Int)
 |_,[]=>[]
 |a,k::l=>((a:Int),k)::rh (a+1) l
theorem kM:∀ (a:Nat) (ms:List Int),(rh a ms).length=ms.length
 |_,[]=>rfl
 |a,k::l=>by rw[rh,aaN,aaN,kM]
theorem CX:∀ (a:Nat) (ms:List Int) (i:Nat),i<ms.length->(rh a ms)[i]?=some (((a+i:Nat):Int),ms.getD i 0)
 |_,[],i,h=>absurd h (pt _)
 |a,k::l,0,_=>by rw[rh];rfl
 |a,k::l,i+1,h=>by
  rw[rh,abA,CX (a+1) l i (by simpa using h),show a+1+i=a+(i+1) by omega];rfl
theorem yl(k:Int):∀ (a:Nat) (ms:List Int),rh a (ms++[k])=rh a ms++[(((a+ms.length:Nat):Int),k)]
 |a,[]=>rfl
 |a,x::l=>by
  show _::rh (a+1) (l++[k])=_;rw[yl k (a+1) l,aaN,show a+1+l.length=a+(l.length+1) by omega];rfl
theorem ym:∀ (a:Nat) (ms:List Int) (n:Nat),(rh a ms).take n=rh a (ms.take n)
 |_,[],n=>by cases n <;> rfl
 |_,_::_,0=>rfl
 |a,k::l,n+1=>by
  show _::(rh (a+1) l).take n=_::rh (a+1) (l.take n);rw[ym]
theorem wp(h:SlX lH 171 (rh a ms) A cap Hl)(hn:ms≠[]):∃b o M full,A=some ⟨b,o*2,none⟩/\Hl=[(b,.rows 2 M (ak lH full) 171 (0,0))]/\full.length=M/\o+cap<=M/\ms.length<=cap/\(full.drop o).take ms.length=rh a ms/\∀k,k<ms.length->full.getD (o+k) lH.dflt=(((a+k:Nat):Int),ms.getD k 0):=by
 rcases h with ⟨_,_,h,_⟩|⟨b,o,M,full,h1,h2,h3,h4,h5,h6⟩
 ·exfalso;have:=congrArg List.length h;rw[kM] at this;exact hn (aaU this)
 ·rw[kM] at h5 h6;refine⟨b,o,M,full,h1,h2,h3,h4,h5,h6,λ k hk=>?_⟩;have e:=congrArg (·[k]?) h6;simp only[abe,if_pos hk,abd,CX a ms k hk] at e;rw[aaG,e];rfl
theorem Ir{b:Nat} {M:Nat}(hm:(rb,.lit [vP mb 0,vI (w:Int),vS b (o*2) n cap] 128 (0,0))∈F)(hq:(b,.rows 2 M (ak lH full) 171 (0,0))∈F)(hn:1<=n)(ho:o+n<=M)(hn8:n<=100000000):aen 85 #[vP rb 0] F (vI (full.getD o lH.dflt).1):=by
 refine rI Tryz.func85 (mc hm (mc hq mn)) [] []<|SO 16 [.ro 0]<|aaq ((n:Int)=0) 8 (λ h1=>?_) λ h1=>?_
 ·(exfalso;omega)
 ·refine ah 15 [.ro 0,.ix 0,.rorow 1 (o+0) 0] [(o*2+0*2)=(o+0)*2+0/\(o+0)<M,0=((0:Nat):Int)/\0<n] λ _=>QW _ _ ⟨rfl,rfl⟩
theorem yn{b:Nat} {M:Nat}(hm:(rb,.lit [vP mb 0,vI (w:Int),vS b (o*2) n cap] 128 (0,0))∈F)(hq:(b,.rows 2 M (ak lH full) 171 (0,0))∈F)(hn:1<=n)(ho:o+n<=M)(hn8:n<=100000000):aen 57 #[vP rb 0] F (vI (full.getD (o+(n-1)) lH.dflt).1):=by
 refine rI Tryz.func57 (mc hm (mc hq mn)) [] []<|SO 16 [.ro 0]<|aaq ((n:Int)=0) 8 (λ h1=>?_) λ h1=>?_
 ·(exfalso;omega)
 ·refine OU 4<|aap [] []<|aA [] [0,4,1,5,2,6,3,7,8,9,10,11,12,13] [.ro 0,.ro 0,.nw,.ix (n-1),.rorow 1 (o+(n-1)) 0] [(o*2+(n-1)*2)=(o+(n-1))*2+0/\(o+(n-1))<M,(n:Int)-1=(((n-1):Nat):Int)/\(n-1)<n,aI ((n:Int)-1)]<|aaf<|ae 1 [] λ _=>QW _ _ ⟨rfl,rfl⟩
theorem Iu{b:Nat}(hm:(rb,.lit [vP mb 0,vI (w:Int),vS b (o*2) 0 cap] 128 (0,0))∈F):aen 57 #[vP rb 0] F (vI (-1)):=by
 refine QU Tryz.func57 hm<|ae 22 [.ro 0] λ _=>QW _ _ ⟨rfl,rfl⟩
theorem Iv(hm:(rb,.lit [vP mb 0,vI (w:Int),.slice none 0 0] 128 (0,0))∈F):aen 57 #[vP rb 0] F (vI (-1)):=by
 refine QU Tryz.func57 hm<|ae 22 [.ro 0] λ _=>QW _ _ ⟨rfl,rfl⟩
theorem Mr(x1 x2:Int) {t:Int}(hm:(tq,.lit [vI t] 3 (0,0))∈F):aen 87 #[.agg #[vI x1,vI x2],vP tq 0] F (.bool (decide (x1=t))):=by
 refine QU Tryz.func87 hm<|ae 15 [.o 0,.ro 0] λ n1=>QW _ _ ⟨rfl,rfl⟩
theorem Ms{b:Nat} {M:Nat} (cap:Nat) (k0:Nat){t:Int}(hm:(tq,.lit [vI t] 3 (0,0))∈F)(hq:(b,.rows 2 M (ak lH full) 171 (0,0))∈F)(ho:o+n<=M)(hn8:n<=100000000)(hk:k0<n)(ht:(full.getD (o+k0) lH.dflt).1=t)(g_:∀k,k<k0->¬ (full.getD (o+k) lH.dflt).1=t):aen 86 #[vS b (o*2) n cap,.func (.func 87) #[] #[vP tq 0]] F (vI (k0:Int)):=by
 refine rI Tryz.func86 (mc hm (mc hq mn)) [] []<|OU 14<|aat (σ:=Nat) (λ i_=>⟨[(0,vS b (o*2) n cap),(1,.func (.func 87) #[] #[vP tq 0]),(7,vI (n:Int)),(8,vI (i_:Int))],[],[],i_<=k0,k0-i_⟩) 0 [] [] (aaJ _) ?_;rintro i_ hi_ Vx;refine OU 6<|aaq ((i_:Int)<(n:Int)) 9 (λ h3=>?_) λ h3=>?_
 ·refine ah 18 [.ix i_,.rorow 1 (o+i_) 0,.rorow 1 (o+i_) 1] [((o*2+i_*2)+1)=(o+i_)*2+1/\(o+i_)<M,(o*2+i_*2)=(o+i_)*2+0/\(o+i_)<M,(i_:Int)=((i_:Nat):Int)/\i_<n] λ _=>aal (Mr ((full.getD (o+i_) lH.dflt).1) ((full.getD (o+i_) lH.dflt).2) (aC hm))<|OU 2<|cP ((decide ((full.getD (o+i_) lH.dflt).1=t))) 16 (λ h4=>?_) λ h4=>?_
  ·refine ae 7 [] λ _=>?_;have e_:i_=k0:=by
    rcases aaV i_ k0 with h_|h_
    ·exact absurd (by simpa using h4) (g_ i_ h_)
    ·omega
   exact QW (vI (i_:Int)) _ ⟨by rw[e_],rfl⟩
  ·refine ah 8 [.nw] [aI ((i_:Int)+1)] λ _=>Vx (i_+1) [] [] ?_
   try dsimp only
   have e_:i_≠k0:=by rintro rfl;exact absurd ht (by simpa using h4)
   exact⟨by omega,by omega⟩
 ·(exfalso;omega)
def CY(a:Nat)(ms:List Int):Int:=if ms=[] then -1 else ((a+ms.length:Nat):Int)-1
theorem CZ(hs:SlX lH 171 (rh a ms) A cap Hl)(hF:∀x∈Hl,x∈F)(hn:n=ms.length)(hn8:n<=100000000)(hm:(rb,.lit [vP mb 0,vI (w:Int),.slice A n cap] 128 (0,0))∈F):aen 57 #[vP rb 0] F (vI (CY a ms)):=by
 subst hn;unfold CY;split
 ·next e=>
  subst e;rcases hs with ⟨rfl,rfl,_,_⟩|⟨b,o,M,full,rfl,rfl,h3,h4,h5,h6⟩
  ·exact Iv hm
  ·exact Iu o hm
 ·next e=>
  have hp:1<=ms.length:=by
   cases ms with
   |nil=>exact absurd rfl e
   |cons _ _=>simp
  obtain⟨b,o,M,full,rfl,rfl,h3,h4,h5,h6,h7⟩:=wp hs e;have h:=yn o hm (hF _ (jt.2 rfl)) hp (by omega) hn8;rw[h7 (ms.length-1) (by omega)] at h;rw[show ((a+ms.length:Nat):Int)-1=((a+(ms.length-1):Nat):Int) by omega];exact h
def Shp.nm(s:Shp):Shp:=⟨s.r,s.poly,none,0⟩
def Bod.nm(b:Bod):Bod:=⟨b.sh.nm,b.mot,b.a,b.b⟩
def Setup.nm(S:Setup):Setup:={ S with bb:=0,bo:=0,bc:=0,bR:=0,bods:=(S.bods.drop S.bo).map Bod.nm,rA:=none,rc:=0,dA:=none,dc:=0 }
def Stp.nm(t:Stp):Stp:={ t with S:=t.S.nm,cA:=none,cc:=0,ib:=0,io:=0,ic:=0,iR:=0,ins:=[] }
theorem EZ(l:List α)(o k:Nat)(d:α):(l.drop o).getD (0+k) d=l.getD (o+k) d:=by
 rw[abp,aaG,aaG,abd]
theorem Iw{β:Type}(f:α->β){l:List α}{k:Nat}(d:α):(l.map f).getD k (f d)=f (l.getD k d):=by
 rw[aaG,aaG,abf];cases l[k]? <;> rfl
theorem ri(k:Nat):S.nm.body k=(S.body k).nm:=by
 show ((S.bods.drop S.bo).map Bod.nm).getD (0+k) dB=Bod.nm (S.bods.getD (S.bo+k) dB);rw[<- EZ S.bods S.bo k dB];exact Iw Bod.nm dB
theorem kO:S.nm.players=S.players:=rfl
theorem iL:S.nm.nb=S.nb:=rfl
theorem Iy:S.nm.box=S.box:=rfl
theorem PA:S.nm.g=S.g:=rfl
theorem E0:S.nm.push=S.push:=rfl
theorem E1:S.nm.drag=S.drag:=rfl
theorem uH:S.nm.rest=S.rest:=rfl
theorem yo:S.nm.rounds=S.rounds:=rfl
theorem uI:S.nm.fuel=S.fuel:=rfl
theorem C0:t.nm.cn=t.cn:=rfl
theorem C1:t.nm.e0=t.e0:=rfl
theorem Mt:t.nm.e1=t.e1:=rfl
theorem C2:t.nm.e2=t.e2:=rfl
theorem wq:t.nm.version=t.version:=rfl
theorem dj:t.nm.i=t.i:=rfl
theorem im:t.nm.j=t.j:=rfl
theorem BA:t.nm.ended=t.ended:=rfl
theorem rj:t.nm.f0=t.f0:=rfl
theorem rk:t.nm.f1=t.f1:=rfl
theorem rm:t.nm.f2=t.f2:=rfl
theorem rq:t.nm.f3=t.f3:=rfl
theorem iM:t.nm.emitted=t.emitted:=rfl
theorem pJ:t.nm.code=t.code:=rfl
theorem bz:t.nm.S=t.S.nm:=rfl
theorem C3(b:Bod):b.nm.sh=b.sh.nm:=rfl
theorem yp(b:Bod):b.nm.mot=b.mot:=rfl
theorem PC(s:Shp):s.nm.r=s.r:=rfl
theorem jI :ai S.nm k=ai S k:=by
 unfold ai;simp only[kO,bz] <;> rfl
theorem fq :af S.nm k=af S k:=by
 unfold af;simp only[kO,iL,bz] <;> rfl
theorem wt :(movP S.nm k)=(movP S k):=by
 unfold movP;simp only[iL,bz,yp,ri] <;> rfl
theorem oZ(k:Int) :av S.nm M k=av S M k:=by
 unfold av;simp only[bz,yp,ri,fq] <;> rfl
theorem yq(a:Shp)(pa:V2)(b:Shp)(pb:V2) :cq a.nm pa b.nm pb=cq a pa b pb:=by
 kernel_rfl
theorem Iz(a:Shp)(pa va:V2)(b:Shp)(pb vb:V2) :nv a.nm pa va b.nm pb vb=nv a pa va b pb vb:=by
 kernel_rfl
theorem BB :dh t.nm k m M=dh t k m M:=by
 unfold dh;simp only[bz,fq] <;> rfl
theorem E2(c sp pos lo hi:Int)(M:MemS) :dL t.nm c sp pos lo hi M=dL t c sp pos lo hi M:=by
 unfold dL;simp only[uH,bz] <;> rfl
theorem uJ :cW t.nm M=cW t M:=by
 unfold cW;simp only[wq,dj,bz] <;> rfl
theorem uK :ga t.nm M=ga t M:=by
 unfold ga;simp only[kO,dj,bz] <;> rfl
theorem yr :j0 t.nm=j0 t:=by
 unfold j0;simp only[iL,dj,BA,bz] <;> rfl
theorem IA :fF t.nm M=fF t M:=by
 unfold fF;simp only[dj,bz,fq] <;> rfl
theorem IB :lq t.nm M=lq t M:=by
 unfold lq;simp only[iL,dj,bz] <;> rfl
theorem yt :fX t.nm M=fX t M:=by
 unfold fX;simp only[bz,IA,IB] <;> rfl
theorem E3 :gc t.nm M=gc t M:=by
 unfold gc;simp only[PA,E0,E1,dj,bz,jI,oZ] <;> rfl
theorem E4 :eU t.nm M=eU t M:=by
 unfold eU;simp only[dj,bz,fq] <;> rfl
theorem E5 :eC t.nm M=eC t M:=by
 unfold eC;simp only[dj,bz,fq,wt,E3] <;> rfl
theorem E6 :ge t.nm M=ge t M:=by
 unfold ge;simp only[iL,dj,bz] <;> rfl
theorem uL :dW t.nm M=dW t M:=by
 unfold dW;simp only[bz,E4,E5,E6] <;> rfl
theorem BC :gL t.nm M=gL t M:=by
 unfold gL;simp only[dj,bz,oZ] <;> rfl
theorem BD :cL t.nm M=cL t M:=by
 unfold cL;simp only[Iy,dj,bz,fq,E2,BC] <;> rfl
theorem IC(op n a b:Int)(M:MemS) :dH S.nm op n a b M=dH S op n a b M:=by
 unfold dH;simp only[bz,fq] <;> rfl
theorem IE(op n sp pc fuel:Int)(M:MemS) :iE S.nm op n sp pc fuel M=iE S op n sp pc fuel M:=by
 unfold iE;simp only[uI,bz,IC] <;> rfl
theorem IG(code:List Ins)(n:Nat)(M:MemS) :aj S.nm code n M=aj S code n M:=by
 unfold aj;simp only[pJ,bz,IE] <;> rfl
theorem wu(M:MemS) :eH e t.nm self other M=eH e t self other M:=by
 unfold eH;simp only[uI,C0,im,iM,pJ,bz,IG,rj,rk,rm,rq] <;> rfl
theorem wv(M:MemS) :dt e t.nm self other M=dt e t self other M:=by
 unfold dt;simp only[C0,im,pJ,bz] <;> rfl
theorem yu(r:VR)(over:Bool)(t:Stp)(Vw:Bool)(M:MemS) :dm r over t.nm Vw M=dm r over t Vw M:=by
 unfold dm;simp only[dj,im,iM,bz,PC,rj,rk,rm,rq] <;> rfl
theorem C4 :fO t.nm M=fO t M:=by
 unfold fO;simp only[dj,iM,bz,jI,rj,rk,rm,rq,C1,C2,wu,wv,yu] <;> rfl
theorem yv :dC t.nm M=dC t M:=by
 unfold dC;simp only[bz,Mt,dj,im,wu,wv] <;> rfl
theorem C5 :fP t.nm M=fP t M:=by
 unfold fP;simp only[dj,iM,bz,fq,rj,rk,rm,rq,C1,C2,wu,wv,yu] <;> rfl
theorem C6 :tQ t.nm M=tQ t M:=by
 unfold tQ;simp only[dj,im,bz,C3,ri,oZ,yq] <;> rfl
theorem Mu :yb t.nm M=yb t M:=by
 unfold yb;simp only[uH,dj,im,bz,oZ,C6] <;> rfl
theorem yw :fH t.nm M=fH t M:=by
 unfold fH;simp only[dj,im,bz,fq,BB,Mu] <;> rfl
theorem E7 :dE t.nm M=dE t M:=by
 unfold dE;simp only[iL,dj,im,bz,C6,yw] <;> rfl
theorem Mv :tR t.nm M=tR t M:=by
 unfold tR;simp only[dj,im,bz,C3,ri,oZ,Iz] <;> rfl
theorem IH :eI t.nm M=eI t M:=by
 unfold eI;simp only[dj,im,bz,wt,Mv] <;> rfl
theorem II :fI t.nm M=fI t M:=by
 unfold fI;simp only[iL,dj,bz] <;> rfl
theorem yx :dJ t.nm M=dJ t M:=by
 unfold dJ;simp only[iL,dj,im,bz,wt,BD,IH,II] <;> rfl
theorem qy :bA t.nm M=bA t M:=by
 unfold bA;simp only[iL,yo,dj,im,bz,E7] <;> rfl
def Gm.nm(g:Gm):Gm:={ g with S:=g.S.nm,cA:=none,cc:=0,ib:=0,io:=0,ic:=0,iR:=0,ins:=[] }
theorem mK(g:Gm)(M:MemS):g.nm.step M=(g.step M).nm:=rfl
structure GEq(g g':Gm):Prop where
 nm:g.nm=g'.nm
 inp:∀k,k<g.ni->g.ins.getD (g.io+k) dI=g'.ins.getD (g'.io+k) dI
theorem E8(h:GEq g g')(M:MemS):dV (g.step M) M=dV (g'.step M) M:=by
 have hs:(g.step M).nm=(g'.step M).nm:=by rw[<- mK,<- mK,h.nm]
 unfold dV;rw[<- uJ (g.step M),hs,uJ];generalize cW (g'.step M) M=N;have hb:di (g.step M) N=di (g'.step M) N:=by
  have hS:(g.step M).S.nm=(g'.step M).S.nm:=show (g.step M).nm.S=(g'.step M).nm.S by rw[hs]
  have hi:(g.step M).i=(g'.step M).i:=show (g.step M).nm.i=(g'.step M).nm.i by rw[hs]
  have hn:(g.step M).ni=(g'.step M).ni:=show (g.step M).nm.ni=(g'.step M).nm.ni by rw[hs]
  unfold di;rw[<- jI (g.step M).S,hS,jI,hi,hn]
  by_cases h1:ai (g'.step M).S (g'.step M).i>=0
  ·rw[if_pos h1,if_pos h1]
   by_cases h2:(g'.step M).i<(g'.step M).ni
   ·rw[if_pos h2,if_pos h2];have h3:0<=(g'.step M).i:=by
     rcases Int.lt_or_le (g'.step M).i 0 with h4|h4
     ·unfold ai at h1;rw[if_pos h4] at h1;omega
     ·exact h4
    have e:(g.step M).inp (g'.step M).i.toNat=(g'.step M).inp (g'.step M).i.toNat:=by
     have h5:(g'.step M).i.toNat<g.ni:=by
      have h6:((g'.step M).ni:Int)=(g.ni:Int):=congrArg (Nat.cast) hn.symm;omega
     exact h.inp _ h5
    rw[e]
   ·rw[if_neg h2,if_neg h2]
  ·rw[if_neg h1,if_neg h1]
 rw[hb,<- uK (g.step M),hs,uK]
theorem wx(h:GEq g g')(M:MemS):eD g M=eD g' M:=by
 have hs:(g.step M).nm=(g'.step M).nm:=by rw[<- mK,<- mK,h.nm]
 unfold eD;rw[E8 h,<- C4 (g.step M),<- yv (g.step M),<- uL (g.step M),<- qy (g.step M),<- yx (g.step M),<- C5 (g.step M),<- yt (g.step M),hs,C4,yv,uL,qy,yx,C5,yt]
theorem IJ(h:GEq g g')(M:MemS):js g M=js g' M:=by
 have hs:(g.step M).nm=(g'.step M).nm:=by rw[<- mK,<- mK,h.nm]
 unfold js;rw[<- yr (g.step M),hs,yr]
theorem C7{g g':Gm}(h:GEq g g'):∀ (n:Nat) (M:MemS),gh g n M=gh g' n M
 |0,_=>rfl
 |n+1,M=>by rw[gh,gh,jH,jH,wx h];exact C7 h n _
theorem yz{g g':Gm}(h:GEq g g'):∀ (n:Nat) (M:MemS),d7 g n M=d7 g' n M
 |0,_=>rfl
 |n+1,M=>by rw[d7,d7,jH,jH,wx h,yz h n]
def MemS.sh(M:MemS)(l:List (Int×Int))(b:Int):MemS:=⟨M.cs,l++M.lg,b⟩
def VR.sh(r:VR)(l:List (Int×Int))(b:Int):VR:={ r with M:=r.M.sh l b }
theorem aS(l:List (Int×Int))(b i:Int):(M.sh l b).get i=M.get i:=rfl
theorem aU(l:List (Int×Int))(b i v:Int):(M.sh l b).set i v=(M.set i v).sh l b:=by
 unfold MemS.set MemS.sh;dsimp only;split
 ·simp
 ·rfl
theorem aZ(N:MemS)(l:List (Int×Int))(b:Int)(c:Prop)[Decidable c]:(if c then M.sh l b else N.sh l b)=(if c then M else N).sh l b:=by split <;> rfl
theorem aJ(M N:VR)(l:List (Int×Int))(b:Int)(c:Prop)[Decidable c]:(if c then M.sh l b else N.sh l b)=(if c then M else N).sh l b:=by split <;> rfl
theorem aV(l:List (Int×Int))(b v:Int)(e:Eff)(em:Bool):(⟨M.sh l b,v,e,em⟩:VR)=VR.sh ⟨M,v,e,em⟩ l b:=rfl
theorem aB(code:List Ins)(M:MemS)(l:List (Int×Int))(b:Int):fC code (M.sh l b)=fC code M:=rfl
theorem bK(r:VR)(l:List (Int×Int))(b:Int):(r.sh l b).z=r.z.sh l b:=rfl
theorem bB(r:VR)(l:List (Int×Int))(b:Int):(r.sh l b).M=r.M.sh l b:=rfl
theorem bL(r:VR)(l:List (Int×Int))(b:Int):(r.sh l b).v=r.v:=rfl
theorem bG(r:VR)(l:List (Int×Int))(b:Int):(r.sh l b).e=r.e:=rfl
theorem aW(r:VR)(l:List (Int×Int))(b:Int):(r.sh l b).em=r.em:=rfl
theorem o0(k:Int)(l_:List (Int×Int))(b_:Int):av S (M.sh l_ b_) k=av S M k:=by
 unfold av;simp only[aS,aU,aZ,aJ,aV,bB,bL,bG,aW,aB,bK] <;> rfl
theorem gC(ph j:Int)(M:MemS)(l_:List (Int×Int))(b_:Int):bd t ph j (M.sh l_ b_)=(bd t ph j M).sh l_ b_:=by
 unfold bd;simp only[aS,aU,aZ,aJ,aV,bB,bL,bG,aW,aB,bK] <;> rfl
theorem BE:dh t k m (M.sh l_ b_)=(dh t k m M).sh l_ b_:=by
 unfold dh;simp only[aS,aU,aZ,aJ,aV,bB,bL,bG,aW,aB,bK] <;> rfl
theorem E9(c sp pos lo hi:Int)(M:MemS)(l_:List (Int×Int))(b_:Int):dL t c sp pos lo hi (M.sh l_ b_)=(dL t c sp pos lo hi M).sh l_ b_:=by
 unfold dL;simp only[aS,aU,aZ,aJ,aV,bB,bL,bG,aW,aB,bK] <;> rfl
theorem Fa:cW t (M.sh l_ b_)=(cW t M).sh l_ b_:=by
 unfold cW;simp only[aS,aU,aZ,aJ,aV,bB,bL,bG,aW,aB,bK] <;> rfl
theorem Fb:di t (M.sh l_ b_)=(di t M).sh l_ b_:=by
 unfold di;simp only[aS,aU,aZ,aJ,aV,bB,bL,bG,aW,aB,bK] <;> rfl
theorem Fc:ga t (M.sh l_ b_)=(ga t M).sh l_ b_:=by
 unfold ga;simp only[aS,aU,aZ,aJ,aV,bB,bL,bG,aW,aB,bK,gC] <;> rfl
theorem Fd:dV t (M.sh l_ b_)=(dV t M).sh l_ b_:=by
 unfold dV;simp only[aS,aU,aZ,aJ,aV,bB,bL,bG,aW,aB,bK,Fa,Fb,Fc] <;> rfl
theorem IK:fF t (M.sh l_ b_)=(fF t M).sh l_ b_:=by
 unfold fF;simp only[aS,aU,aZ,aJ,aV,bB,bL,bG,aW,aB,bK] <;> rfl
theorem uM(M:MemS)(l_:List (Int×Int))(b_:Int):∀n,eT (M.sh l_ b_) n=(eT M n).sh l_ b_
 |0=>rfl
 |n+1=>by rw[eT,eT,uM M l_ b_ n,aU]
theorem IL:lq t (M.sh l_ b_)=(lq t M).sh l_ b_:=by
 unfold lq;simp only[aS,aU,aZ,aJ,aV,bB,bL,bG,aW,aB,bK,uM] <;> rfl
theorem IM:fX t (M.sh l_ b_)=(fX t M).sh l_ b_:=by
 unfold fX;simp only[aS,aU,aZ,aJ,aV,bB,bL,bG,aW,aB,bK,IK,IL] <;> rfl
theorem Ff:gc t (M.sh l_ b_)=gc t M:=by
 unfold gc;simp only[aS,aU,aZ,aJ,aV,bB,bL,bG,aW,aB,bK,o0] <;> rfl
theorem Fg:eU t (M.sh l_ b_)=(eU t M).sh l_ b_:=by
 unfold eU;simp only[aS,aU,aZ,aJ,aV,bB,bL,bG,aW,aB,bK] <;> rfl
theorem Fh:eC t (M.sh l_ b_)=(eC t M).sh l_ b_:=by
 unfold eC;simp only[aS,aU,aZ,aJ,aV,bB,bL,bG,aW,aB,bK,Ff] <;> rfl
theorem Fi:ge t (M.sh l_ b_)=(ge t M).sh l_ b_:=by
 unfold ge;simp only[aS,aU,aZ,aJ,aV,bB,bL,bG,aW,aB,bK,gC] <;> rfl
theorem Fj:dW t (M.sh l_ b_)=(dW t M).sh l_ b_:=by
 unfold dW;simp only[aS,aU,aZ,aJ,aV,bB,bL,bG,aW,aB,bK,Fg,Fh,Fi] <;> rfl
theorem BF:mE (M.sh l_ b_)=mE M:=by
 unfold mE;simp only[aS,aU,aZ,aJ,aV,bB,bL,bG,aW,aB,bK] <;> rfl
theorem BG:gL t (M.sh l_ b_)=gL t M:=by
 unfold gL;simp only[aS,aU,aZ,aJ,aV,bB,bL,bG,aW,aB,bK,o0,BF] <;> rfl
end
section
variable {g':Gm} {i:Nat} (S:Setup) (e:Int) (g:Gm) (t:Stp) (o fuel self other:Int) (M:MemS) (l_:List (Int×Int)) (b_:Int)
theorem BH:cL t (M.sh l_ b_)=(cL t M).sh l_ b_:=by
 unfold cL;simp only[aS,aU,aZ,aJ,aV,bB,bL,bG,aW,aB,bK,E9,BG] <;> rfl
theorem IO0(k v:Int)(M:MemS)(l_:List (Int×Int))(b_:Int):cY k v (M.sh l_ b_)=(cY k v M).sh l_ b_:=by
 unfold cY;simp only[aS,aU,aZ,aJ,aV,bB,bL,bG,aW,aB,bK] <;> rfl
theorem IP(op n a b:Int)(M:MemS)(l_:List (Int×Int))(b_:Int):dH S op n a b (M.sh l_ b_)=(dH S op n a b M).sh l_ b_:=by
 unfold dH;simp only[aS,aU,aZ,aJ,aV,bB,bL,bG,aW,aB,bK,IO0] <;> rfl
theorem Mw(op sp:Int)(M:MemS)(l_:List (Int×Int))(b_:Int):pC op sp (M.sh l_ b_)=pC op sp M:=by
 unfold pC;simp only[aS,aU,aZ,aJ,aV,bB,bL,bG,aW,aB,bK] <;> rfl
theorem Mx(op sp:Int)(M:MemS)(l_:List (Int×Int))(b_:Int):pD op sp (M.sh l_ b_)=pD op sp M:=by
 unfold pD;simp only[aS,aU,aZ,aJ,aV,bB,bL,bG,aW,aB,bK] <;> rfl
theorem My(op sp pc fuel:Int)(M:MemS)(l_:List (Int×Int))(b_:Int):m5 op sp pc fuel (M.sh l_ b_)=(m5 op sp pc fuel M).sh l_ b_:=by
 unfold m5;simp only[aS,aU,aZ,aJ,aV,bB,bL,bG,aW,aB,bK] <;> rfl
theorem IQ(op n sp pc fuel:Int)(M:MemS)(l_:List (Int×Int))(b_:Int):iE S op n sp pc fuel (M.sh l_ b_)=(iE S op n sp pc fuel M).sh l_ b_:=by
 unfold iE;simp only[aS,aU,aZ,aJ,aV,bB,bL,bG,aW,aB,bK,IP,Mw,Mx,My] <;> rfl
theorem yA(code:List Ins)(n:Nat)(M:MemS)(l_:List (Int×Int))(b_:Int):(gu code n (M.sh l_ b_))=(gu code n M):=by
 unfold gu;simp only[aS,aU,aZ,aJ,aV,bB,bL,bG,aW,aB,bK] <;> rfl
theorem IR(op sp:Int)(r:VR)(l_:List (Int×Int))(b_:Int):j5 op sp (r.sh l_ b_)=(j5 op sp r).sh l_ b_:=by
 unfold j5;simp only[aS,aU,aZ,aJ,aV,bB,bL,bG,aW,aB,bK] <;> rfl
theorem IU(code:List Ins)(n:Nat)(M:MemS)(l_:List (Int×Int))(b_:Int):aj S code n (M.sh l_ b_)=(aj S code n M).sh l_ b_:=by
 unfold aj;simp only[aS,aU,aZ,aJ,aV,bB,bL,bG,aW,aB,bK,IQ,yA,IR] <;> rfl
theorem Mz(code:List Ins)(n:Nat)(M:MemS)(l_:List (Int×Int))(b_:Int):cQ code n (M.sh l_ b_)=cQ code n M:=by
 unfold cQ;simp only[aS,aU,aZ,aJ,aV,bB,bL,bG,aW,aB,bK,yA] <;> rfl
theorem Fk:aN e fuel self other (M.sh l_ b_)=(aN e fuel self other M).sh l_ b_:=by
 unfold aN;simp only[aS,aU,aZ,aJ,aV,bB,bL,bG,aW,aB,bK] <;> rfl
theorem wy:eH e t self other (M.sh l_ b_)=(eH e t self other M).sh l_ b_:=by
 unfold eH;simp only[aS,aU,aZ,aJ,aV,bB,bL,bG,aW,aB,bK,IU,Fk] <;> rfl
theorem wz:dt e t self other (M.sh l_ b_)=dt e t self other M:=by
 unfold dt;simp only[aS,aU,aZ,aJ,aV,bB,bL,bG,aW,aB,bK,Mz] <;> rfl
theorem yB(r:VR)(over:Bool)(t:Stp)(Vw:Bool)(M:MemS)(l_:List (Int×Int))(b_:Int):dm (r.sh l_ b_) over t Vw (M.sh l_ b_)=(dm r over t Vw M).sh l_ b_:=by
 unfold dm;simp only[aS,aU,aZ,aJ,aV,bB,bL,bG,aW,aB,bK] <;> rfl
theorem IV(c:Bool)(M:MemS)(l_:List (Int×Int))(b_:Int):cC t o c (M.sh l_ b_)=(cC t o c M).sh l_ b_:=by
 unfold cC bU jv;rw[wy,wz,yB]
theorem IW(c:Bool)(M:MemS)(l_:List (Int×Int))(b_:Int):cD t o c (M.sh l_ b_)=(cD t o c M).sh l_ b_:=by
 unfold cD bV jx;rw[wy,wz,yB]
theorem MA:fO t (M.sh l_ b_)=(fO t M).sh l_ b_:=by
 unfold fO;simp only[aS,aU,aZ,aJ,aV,bB,bL,bG,aW,aB,bK,gC,IV] <;> rfl
theorem IX:dC t (M.sh l_ b_)=(dC t M).sh l_ b_:=by
 unfold dC;simp only[aS,aU,aZ,aJ,aV,bB,bL,bG,aW,aB,bK,gC,wy,wz] <;> rfl
theorem C8:tQ t (M.sh l_ b_)=tQ t M:=by
 unfold tQ;simp only[aS,aU,aZ,aJ,aV,bB,bL,bG,aW,aB,bK,o0] <;> rfl
theorem MB:yb t (M.sh l_ b_)=yb t M:=by
 unfold yb;simp only[aS,aU,aZ,aJ,aV,bB,bL,bG,aW,aB,bK,o0,C8] <;> rfl
theorem yC:fH t (M.sh l_ b_)=(fH t M).sh l_ b_:=by
 unfold fH;simp only[aS,aU,aZ,aJ,aV,bB,bL,bG,aW,aB,bK,BE,MB] <;> rfl
theorem Fl:dE t (M.sh l_ b_)=(dE t M).sh l_ b_:=by
 unfold dE;simp only[aS,aU,aZ,aJ,aV,bB,bL,bG,aW,aB,bK,C8,yC] <;> rfl
theorem MC:tR t (M.sh l_ b_)=tR t M:=by
 unfold tR;simp only[aS,aU,aZ,aJ,aV,bB,bL,bG,aW,aB,bK,o0] <;> rfl
theorem IY:eI t (M.sh l_ b_)=(eI t M).sh l_ b_:=by
 unfold eI;simp only[aS,aU,aZ,aJ,aV,bB,bL,bG,aW,aB,bK,MC] <;> rfl
theorem IZ:fI t (M.sh l_ b_)=(fI t M).sh l_ b_:=by
 unfold fI;simp only[aS,aU,aZ,aJ,aV,bB,bL,bG,aW,aB,bK,gC] <;> rfl
theorem I0:dJ t (M.sh l_ b_)=(dJ t M).sh l_ b_:=by
 unfold dJ;simp only[aS,aU,aZ,aJ,aV,bB,bL,bG,aW,aB,bK,BH,IY,IZ] <;> rfl
theorem yD:bA t (M.sh l_ b_)=(bA t M).sh l_ b_:=by
 unfold bA;simp only[aS,aU,aZ,aJ,aV,bB,bL,bG,aW,aB,bK,gC,Fl] <;> rfl
theorem MD:fP t (M.sh l_ b_)=(fP t M).sh l_ b_:=by
 unfold fP;simp only[aS,aU,aZ,aJ,aV,bB,bL,bG,aW,aB,bK,gC,IW] <;> rfl
theorem ME(l:List (Int×Int))(b:Int):g.step (M.sh l b)=g.step M:=rfl
theorem wA(l:List (Int×Int))(b:Int):eD g (M.sh l b)=(eD g M).sh l b:=by
 unfold eD;simp only[ME,aS,Fd,MA,IX,Fj,yD,I0,MD,IM,aV,aJ]
theorem I1(l:List (Int×Int))(b:Int):js g (M.sh l b)=js g M:=rfl
theorem C9(g:Gm)(l:List (Int×Int))(b:Int):∀ (n:Nat) (M:MemS),gh g n (M.sh l b)=(gh g n M).sh l b
 |0,_=>rfl
 |n+1,M=>by rw[gh,gh,jH,jH,wA,bB];exact C9 g l b n _
theorem yE(g:Gm)(l:List (Int×Int))(b:Int):∀ (n:Nat) (M:MemS),d7 g n (M.sh l b)=d7 g n M
 |0,_=>rfl
 |n+1,M=>by rw[d7,d7,jH,jH,wA,bB,bG,aW,yE g l b n]
def Da(g:Gm):Nat->MemS->Nat
 |0,_=>0
 |f+1,M=>if js g M=true then 0 else Da g f (jH g M)+1
theorem I2{g:Gm}:∀ (m f:Nat) (M:MemS),dR g (m+1) M->m<f->Da g f M=m
 |m,0,M,_,h=>by omega
 |0,f+1,M,h,_=>by
  rcases h.2 with ⟨_,e⟩|⟨_,e⟩
  ·rw[Da,if_pos e]
  ·exact e.elim
 |m+1,f+1,M,h,hf=>by
  rcases h.2 with ⟨e,_⟩|⟨e1,e2⟩
  ·omega
  ·rw[Da,if_neg (by rw[e1];simp),I2 m f _ e2 (by omega)]
def kP(g:Gm)(M:MemS):MemS:=gh g (Da g 1000 M+1) M
def qL(g:Gm)(M:MemS):List Eff:=d7 g (Da g 1000 M+1) M
theorem BI{g g':Gm}(h:GEq g g'):∀ (f:Nat) (M:MemS),Da g f M=Da g' f M
 |0,_=>rfl
 |f+1,M=>by rw[Da,Da,IJ h,jH,jH,wx h,BI h f]
theorem BJ{g:Gm}(h:GEq g g')(M:MemS):kP g M=kP g' M:=by rw[kP,kP,BI h,C7 h]
theorem PD{g:Gm}(h:GEq g g')(M:MemS):qL g M=qL g' M:=by rw[qL,qL,BI h,yz h]
theorem BK(g:Gm)(l:List (Int×Int))(b:Int):∀ (f:Nat) (M:MemS),Da g f (M.sh l b)=Da g f M
 |0,_=>rfl
 |f+1,M=>by rw[Da,Da,I1,jH,jH,wA,bB,BK g l b f]
theorem wB(l:List (Int×Int))(b:Int):kP g (M.sh l b)=(kP g M).sh l b:=by rw[kP,kP,BK,C9]
theorem I3(l:List (Int×Int))(b:Int):qL g (M.sh l b)=qL g M:=by rw[qL,qL,BK,yE]
theorem l8:(MemS.sh ⟨M.cs,[],0⟩ M.lg M.base)=M:=by cases M;simp[MemS.sh]
theorem I4{g:Gm}{M N:MemS}(h:M.cs=N.cs):(kP g M).cs=(kP g N).cs:=by
 rw[<- l8 M,<- l8 N,wB,wB,h];rfl
theorem PE{g:Gm}{M N:MemS}(h:M.cs=N.cs):qL g M=qL g N:=by
 rw[<- l8 M,<- l8 N,I3,I3,h]
def ji(g:Gm):Nat->MemS->List (Eff×Bool)
 |0,_=>[]
 |n+1,M=>((eD g M).e,(eD g M).em)::ji g n (jH g M)
theorem jj(g:Gm):∀ (n:Nat) (M:MemS),(ji g n M).length=n
 |0,_=>rfl
 |n+1,M=>by rw[ji,aaN,jj g n]
def m6:List (Eff×Bool)->List Eff
 | []=>[]
 |x::l=>(if x.2=true then [x.1] else [])++m6 l
theorem yF(g:Gm):∀ (n:Nat) (M:MemS),m6 (ji g n M)=d7 g n M
 |0,_=>rfl
 |n+1,M=>by rw[ji,m6,yF g n,d7]
theorem sk:∀ (l m:List (Eff×Bool)),m6 (l++m)=m6 l++m6 m
 | [],m=>rfl
 |x::l,m=>by rw[abl,m6,m6,sk l m,aaF]
theorem yG:∀ (l:List (Eff×Bool)),(m6 l).length<=l.length
 | []=>aaI _
 |x::l=>by
  have:=yG l;rw[m6,aaK,aaN];split
  ·simp;omega
  ·simp;omega
theorem I5{l:List (Eff×Bool)}{x:Eff×Bool}(h:l[i]?=some x)(e:x.2=true):m6 (l.take (i+1))=m6 (l.take i)++[x.1]:=by
 rw[adO,h,sk];show _++((if x.2=true then [x.1] else [])++[])=_;rw[if_pos e];rfl
theorem MF{l:List (Eff×Bool)}{x:Eff×Bool}(h:l[i]?=some x)(e:¬ x.2=true):m6 (l.take (i+1))=m6 (l.take i):=by
 rw[adO,h,sk];show _++((if x.2=true then [x.1] else [])++[])=_;rw[if_neg e];simp
theorem gW{g:Gm}{l:List (Eff×Bool)}{r:Nat}{M:MemS}(h:l.drop i=ji g (r+1) M):l[i]?=some ((eD g M).e,(eD g M).em)/\l.drop (i+1)=ji g r (jH g M):=by
 constructor
 ·have:=congrArg (·[0]?) h;simpa [ji] using this
 ·have:=congrArg List.tail h;rwa [List.tail_drop] at this
end
section
variable {A:Option Addr} {F T X:HL} {i n:Nat} {p:MemS->Prop} {s:Shp} {xs:List Int} {α:Type} (g:Gm) (M:MemS)
theorem bH{c:Prop}[Decidable c]{A B:MemS}(h1:p A)(h2:p B):p (if c then A else B):=by split <;> assumption
theorem bg{c:Prop}[Decidable c]{A B:VR}(h1:p A.M)(h2:p B.M):p (if c then A else B).M:=by split <;> assumption
theorem da{r:VR}(h:p r.M):p r.z.M:=h
theorem gD(hp:∀ (M:MemS) (i v:Int),p M->p (M.set i v))(t:Stp)(ph j:Int)(M:MemS)(UZ:p M):p (bd t ph j M):=by
 unfold bd
 repeat' (first|with_reducible assumption|with_reducible apply hp|with_reducible apply bH|with_reducible apply bg|with_reducible apply da|split|assumption)
theorem BL(hp:∀ (M:MemS) (i v:Int),p M->p (M.set i v))(t:Stp)(k:Int)(m:Mot)(M:MemS)(UZ:p M):p (dh t k m M):=by
 unfold dh
 repeat' (first|with_reducible assumption|with_reducible apply hp|with_reducible apply bH|with_reducible apply bg|with_reducible apply da|split|assumption)
theorem Fp(hp:∀ (M:MemS) (i v:Int),p M->p (M.set i v))(t:Stp)(c sp pos lo hi:Int)(M:MemS)(UZ:p M):p (dL t c sp pos lo hi M):=by
 unfold dL
 repeat' (first|with_reducible assumption|with_reducible apply hp|with_reducible apply bH|with_reducible apply bg|with_reducible apply da|split|assumption)
theorem Fq(hp:∀ (M:MemS) (i v:Int),p M->p (M.set i v))(t:Stp)(M:MemS)(UZ:p M):p (cW t M):=by
 unfold cW
 repeat' (first|with_reducible assumption|with_reducible apply hp|with_reducible apply bH|with_reducible apply bg|with_reducible apply da|split|assumption)
theorem Fs(hp:∀ (M:MemS) (i v:Int),p M->p (M.set i v))(t:Stp)(M:MemS)(UZ:p M):p (di t M):=by
 unfold di
 repeat' (first|with_reducible assumption|with_reducible apply hp|with_reducible apply bH|with_reducible apply bg|with_reducible apply da|split|assumption)
theorem Ft(hp:∀ (M:MemS) (i v:Int),p M->p (M.set i v))(t:Stp)(M:MemS)(UZ:p M):p (ga t M):=by
 unfold ga
 repeat' (first|with_reducible assumption|with_reducible apply hp|with_reducible apply gD hp|with_reducible apply bH|with_reducible apply bg|with_reducible apply da|split|assumption)
theorem Fu(hp:∀ (M:MemS) (i v:Int),p M->p (M.set i v))(t:Stp)(M:MemS)(UZ:p M):p (dV t M):=by
 unfold dV
 repeat' (first|with_reducible assumption|with_reducible apply hp|with_reducible apply Fq hp|with_reducible apply Fs hp|with_reducible apply Ft hp|with_reducible apply bH|with_reducible apply bg|with_reducible apply da|split|assumption)
theorem I6(hp:∀ (M:MemS) (i v:Int),p M->p (M.set i v))(t:Stp)(M:MemS)(UZ:p M):p (fF t M):=by
 unfold fF
 repeat' (first|with_reducible assumption|with_reducible apply hp|with_reducible apply bH|with_reducible apply bg|with_reducible apply da|split|assumption)
theorem uN{p:MemS->Prop}(hp:∀ (M:MemS) (i v:Int),p M->p (M.set i v))(M:MemS)(h:p M):∀n,p (eT M n)
 |0=>h
 |n+1=>by rw[eT];exact hp _ _ _ (uN hp M h n)
theorem I7(hp:∀ (M:MemS) (i v:Int),p M->p (M.set i v))(t:Stp)(M:MemS)(UZ:p M):p (lq t M):=by
 unfold lq
 repeat' (first|with_reducible assumption|with_reducible apply hp|with_reducible apply uN hp|with_reducible apply bH|with_reducible apply bg|with_reducible apply da|split|assumption)
theorem I8(hp:∀ (M:MemS) (i v:Int),p M->p (M.set i v))(t:Stp)(M:MemS)(UZ:p M):p (fX t M):=by
 unfold fX
 repeat' (first|with_reducible assumption|with_reducible apply hp|with_reducible apply I6 hp|with_reducible apply I7 hp|with_reducible apply bH|with_reducible apply bg|with_reducible apply da|split|assumption)
theorem Fv(hp:∀ (M:MemS) (i v:Int),p M->p (M.set i v))(t:Stp)(M:MemS)(UZ:p M):p (eU t M):=by
 unfold eU
 repeat' (first|with_reducible assumption|with_reducible apply hp|with_reducible apply bH|with_reducible apply bg|with_reducible apply da|split|assumption)
theorem Fw(hp:∀ (M:MemS) (i v:Int),p M->p (M.set i v))(t:Stp)(M:MemS)(UZ:p M):p (eC t M):=by
 unfold eC
 repeat' (first|with_reducible assumption|with_reducible apply hp|with_reducible apply bH|with_reducible apply bg|with_reducible apply da|split|assumption)
theorem Fx(hp:∀ (M:MemS) (i v:Int),p M->p (M.set i v))(t:Stp)(M:MemS)(UZ:p M):p (ge t M):=by
 unfold ge
 repeat' (first|with_reducible assumption|with_reducible apply hp|with_reducible apply gD hp|with_reducible apply bH|with_reducible apply bg|with_reducible apply da|split|assumption)
theorem Fy(hp:∀ (M:MemS) (i v:Int),p M->p (M.set i v))(t:Stp)(M:MemS)(UZ:p M):p (dW t M):=by
 unfold dW
 repeat' (first|with_reducible assumption|with_reducible apply hp|with_reducible apply Fv hp|with_reducible apply Fw hp|with_reducible apply Fx hp|with_reducible apply bH|with_reducible apply bg|with_reducible apply da|split|assumption)
theorem BM(hp:∀ (M:MemS) (i v:Int),p M->p (M.set i v))(t:Stp)(M:MemS)(UZ:p M):p (cL t M):=by
 unfold cL
 repeat' (first|with_reducible assumption|with_reducible apply hp|with_reducible apply Fp hp|with_reducible apply bH|with_reducible apply bg|with_reducible apply da|split|assumption)
theorem I9(hp:∀ (M:MemS) (i v:Int),p M->p (M.set i v))(k v:Int)(M:MemS)(UZ:p M):p (cY k v M).M:=by
 unfold cY
 repeat' (first|with_reducible assumption|with_reducible apply hp|with_reducible apply bH|with_reducible apply bg|with_reducible apply da|split|assumption)
theorem Ja(hp:∀ (M:MemS) (i v:Int),p M->p (M.set i v))(S:Setup)(op n a b:Int)(M:MemS)(UZ:p M):p (dH S op n a b M).M:=by
 unfold dH
 repeat' (first|with_reducible assumption|with_reducible apply hp|with_reducible apply I9 hp|with_reducible apply bH|with_reducible apply bg|with_reducible apply da|split|assumption)
theorem MG(hp:∀ (M:MemS) (i v:Int),p M->p (M.set i v))(op sp pc fuel:Int)(M:MemS)(UZ:p M):p (m5 op sp pc fuel M):=by
 unfold m5
 repeat' (first|with_reducible assumption|with_reducible apply hp|with_reducible apply bH|with_reducible apply bg|with_reducible apply da|split|assumption)
theorem Jb(hp:∀ (M:MemS) (i v:Int),p M->p (M.set i v))(S:Setup)(op n sp pc fuel:Int)(M:MemS)(UZ:p M):p (iE S op n sp pc fuel M).M:=by
 unfold iE
 repeat' (first|with_reducible assumption|with_reducible apply hp|with_reducible apply Ja hp|with_reducible apply MG hp|with_reducible apply bH|with_reducible apply bg|with_reducible apply da|split|assumption)
theorem Jc(hp:∀ (M:MemS) (i v:Int),p M->p (M.set i v))(op sp:Int)(r:VR)(UZ:p r.M):p (j5 op sp r).M:=by
 unfold j5
 repeat' (first|with_reducible assumption|with_reducible apply hp|with_reducible apply bH|with_reducible apply bg|with_reducible apply da|split|assumption)
theorem Jd(hp:∀ (M:MemS) (i v:Int),p M->p (M.set i v))(S:Setup)(code:List Ins)(n:Nat)(M:MemS)(UZ:p M):p (aj S code n M).M:=by
 unfold aj
 repeat' (first|with_reducible assumption|with_reducible apply hp|with_reducible apply Jb hp|with_reducible apply Jc hp|with_reducible apply bH|with_reducible apply bg|with_reducible apply da|split|assumption)
theorem Fz(hp:∀ (M:MemS) (i v:Int),p M->p (M.set i v))(e fuel self other:Int)(M:MemS)(UZ:p M):p (aN e fuel self other M):=by
 unfold aN
 repeat' (first|with_reducible assumption|with_reducible apply hp|with_reducible apply bH|with_reducible apply bg|with_reducible apply da|split|assumption)
theorem wC(hp:∀ (M:MemS) (i v:Int),p M->p (M.set i v))(e:Int)(t:Stp)(self other:Int)(M:MemS)(UZ:p M):p (eH e t self other M).M:=by
 unfold eH
 repeat' (first|with_reducible assumption|with_reducible apply hp|with_reducible apply Jd hp|with_reducible apply Fz hp|with_reducible apply bH|with_reducible apply bg|with_reducible apply da|split|assumption)
theorem j9(hp:∀ (M:MemS) (i v:Int),p M->p (M.set i v))(r:VR)(over:Bool)(t:Stp)(Vw:Bool)(M:MemS)(UZ:p r.M)(h1_:p M):p (dm r over t Vw M).M:=by
 unfold dm
 repeat' (first|with_reducible assumption|with_reducible apply hp|with_reducible apply bH|with_reducible apply bg|with_reducible apply da|split|assumption)
theorem Je(hp:∀ (M:MemS) (i v:Int),p M->p (M.set i v))(t:Stp)(o:Int)(c:Bool)(M:MemS)(h:p M):p (cC t o c M).M:=by
 unfold cC bU jv
 first|exact j9 hp _ _ _ _ _ h|exact j9 hp _ _ _ _ h|(repeat' (first|assumption|apply j9 hp|apply wC hp|split))
theorem Jf(hp:∀ (M:MemS) (i v:Int),p M->p (M.set i v))(t:Stp)(o:Int)(c:Bool)(M:MemS)(h:p M):p (cD t o c M).M:=by
 unfold cD bV jx
 first|exact j9 hp _ _ _ _ _ h|exact j9 hp _ _ _ _ h|(repeat' (first|assumption|apply j9 hp|apply wC hp|split))
theorem MH(hp:∀ (M:MemS) (i v:Int),p M->p (M.set i v))(t:Stp)(M:MemS)(UZ:p M):p (fO t M).M:=by
 unfold fO
 repeat' (first|with_reducible assumption|with_reducible apply hp|with_reducible apply gD hp|with_reducible apply Je hp|with_reducible apply bH|with_reducible apply bg|with_reducible apply da|split|assumption)
theorem Jg(hp:∀ (M:MemS) (i v:Int),p M->p (M.set i v))(t:Stp)(M:MemS)(UZ:p M):p (dC t M).M:=by
 unfold dC
 repeat' (first|with_reducible assumption|with_reducible apply hp|with_reducible apply gD hp|with_reducible apply wC hp|with_reducible apply bH|with_reducible apply bg|with_reducible apply da|split|assumption)
theorem yH(hp:∀ (M:MemS) (i v:Int),p M->p (M.set i v))(t:Stp)(M:MemS)(UZ:p M):p (fH t M):=by
 unfold fH
 repeat' (first|with_reducible assumption|with_reducible apply hp|with_reducible apply BL hp|with_reducible apply bH|with_reducible apply bg|with_reducible apply da|split|assumption)
theorem FB(hp:∀ (M:MemS) (i v:Int),p M->p (M.set i v))(t:Stp)(M:MemS)(UZ:p M):p (dE t M):=by
 unfold dE
 repeat' (first|with_reducible assumption|with_reducible apply hp|with_reducible apply yH hp|with_reducible apply bH|with_reducible apply bg|with_reducible apply da|split|assumption)
theorem Jh(hp:∀ (M:MemS) (i v:Int),p M->p (M.set i v))(t:Stp)(M:MemS)(UZ:p M):p (eI t M):=by
 unfold eI
 repeat' (first|with_reducible assumption|with_reducible apply hp|with_reducible apply bH|with_reducible apply bg|with_reducible apply da|split|assumption)
theorem Ji(hp:∀ (M:MemS) (i v:Int),p M->p (M.set i v))(t:Stp)(M:MemS)(UZ:p M):p (fI t M):=by
 unfold fI
 repeat' (first|with_reducible assumption|with_reducible apply hp|with_reducible apply gD hp|with_reducible apply bH|with_reducible apply bg|with_reducible apply da|split|assumption)
theorem Jj(hp:∀ (M:MemS) (i v:Int),p M->p (M.set i v))(t:Stp)(M:MemS)(UZ:p M):p (dJ t M):=by
 unfold dJ
 repeat' (first|with_reducible assumption|with_reducible apply hp|with_reducible apply BM hp|with_reducible apply Jh hp|with_reducible apply Ji hp|with_reducible apply bH|with_reducible apply bg|with_reducible apply da|split|assumption)
theorem yI(hp:∀ (M:MemS) (i v:Int),p M->p (M.set i v))(t:Stp)(M:MemS)(UZ:p M):p (bA t M):=by
 unfold bA
 repeat' (first|with_reducible assumption|with_reducible apply hp|with_reducible apply gD hp|with_reducible apply FB hp|with_reducible apply bH|with_reducible apply bg|with_reducible apply da|split|assumption)
theorem MI(hp:∀ (M:MemS) (i v:Int),p M->p (M.set i v))(t:Stp)(M:MemS)(UZ:p M):p (fP t M).M:=by
 unfold fP
 repeat' (first|with_reducible assumption|with_reducible apply hp|with_reducible apply gD hp|with_reducible apply Jf hp|with_reducible apply bH|with_reducible apply bg|with_reducible apply da|split|assumption)
theorem PF(hp:∀ (M:MemS) (i v:Int),p M->p (M.set i v))(g:Gm){M:MemS}(h:p M):p (eD g M).M:=by
 unfold eD
 repeat' (first|with_reducible assumption|with_reducible apply Fu hp|with_reducible apply I8 hp|with_reducible apply Fy hp|with_reducible apply MH hp|with_reducible apply Jg hp|with_reducible apply Jj hp|with_reducible apply yI hp|with_reducible apply MI hp|with_reducible apply bH|with_reducible apply bg|split)
theorem Db{p:MemS->Prop}(hp:∀ (M:MemS) (i v:Int),p M->p (M.set i v))(g:Gm):∀ (n:Nat) (M:MemS),p M->p (gh g n M)
 |0,_,h=>h
 |n+1,M,h=>by rw[gh,jH];exact Db hp g n _ (PF hp g h)
theorem PG(hp:∀ (M:MemS) (i v:Int),p M->p (M.set i v))(g:Gm){M:MemS}(h:p M):p (kP g M):=Db hp g _ M h
def gX(cs:List Int)(es:List (Int×Int)):List Int:=es.foldr (λ e c=>c.set e.1.toNat e.2) cs
structure UndP(c:List Int)(M:MemS):Prop where
 und:gX M.cs M.lg=c
 len:M.cs.length=c.length
 ent:∀e∈M.lg,0<=e.1/\e.1<(c.length:Int)
theorem UndP.set{c:List Int}(M:MemS)(i v:Int)(h:UndP c M):UndP c (M.set i v):=by
 unfold MemS.set;split
 ·next hi=>
  have hl:=h.len;refine⟨?_,by show (M.cs.set _ _).length=_;rw[abE];exact hl,?_⟩
  ·show gX (M.cs.set _ _) (M.lg++[_])=c;unfold gX;rw[List.foldr_append];show M.lg.foldr _ ((M.cs.set i.toNat v).set i.toNat (M.cs.getD i.toNat 0))=c;have e:(M.cs.set i.toNat v).set i.toNat (M.cs.getD i.toNat 0)=M.cs:=by
    rw[List.set_set];apply abP;intro k;rw[ab5];split
    ·next e=>subst e;rw[if_pos (by omega),aaG,aaP (by omega)];rfl
    ·rfl
   rw[e];exact h.und
  ·intro e he;rcases abM.1 he with he|he
   ·exact h.ent e he
   ·rw[jt] at he;subst he;exact⟨by omega,by show i<_;omega⟩
 ·exact h
theorem BN(c:List Int)(b:Int):UndP c ⟨c,[],b⟩:=⟨rfl,rfl,λ _ h=>by cases h⟩
theorem PH:∃es,(kP g M).lg=M.lg++es/\(kP g M).base=M.base/\UndP M.cs ⟨(kP g M).cs,es,0⟩:=by
 have h:=PG (p:=UndP M.cs) UndP.set g (BN M.cs 0);have e:kP g M=(kP g ⟨M.cs,[],0⟩).sh M.lg M.base:=by rw[<- wB,l8]
 rw[e];refine⟨(kP g ⟨M.cs,[],0⟩).lg,rfl,rfl,?_⟩;exact⟨h.und,h.len,h.ent⟩
def MJ(xs:List Int):Int:=1+kv xs 0%3
def sm(xs:List Int):Int:=MJ xs+kv xs 3/3%3
def bN(xs:List Int)(i:Nat):Int:=kv xs (4+2*i)
def bM(xs:List Int)(i:Nat):Int:=kv xs (5+2*i)
def uO(xs:List Int)(i:Nat)(A:Option Addr)(c:Nat):Bod:=⟨⟨(cH (bN xs i)).1,(cH (bN xs i)).2,A,c⟩,⟨((((bN xs i)/1000)%13)-6)*900,((((bM xs i)/50)%11)-5)*800,((((bM xs i)/550)%9)-4)*300,((((bN xs i)/13000)%9)-4)*300,([1024,1024,512,2048,0]:List Int).getD (((bM xs i)/5000)%5).toNat 0⟩,(bM xs i)%50,(bN xs i)%7⟩
def yJ(a b c:Nat)(i:Nat):Option Addr:=match i with|0=>some ⟨a,0,none⟩|1=>some ⟨b,0,none⟩|_=>some ⟨c,0,none⟩
def kc(i:Nat):Nat:=match i with|0=>0|1=>1|_=>2
def Dc(a b c:Nat):Nat->Nat->Value:=λ i _=>.slice (yJ a b c i) (kc i) (kc i)
theorem wD(h:ArgL F A n xs):1<=MJ xs/\MJ xs<=3:=by
 have:=iG h 0;unfold MJ;omega
theorem ru(h:ArgL F A n xs):1<=sm xs/\sm xs<=5/\MJ xs<=sm xs:=by
 have:=iG h 0;have:=iG h 3;unfold sm MJ;omega
theorem Jk{rest:List Int}(h:i<n):(ks xs n++rest).getD i 0=kv xs i:=by
 rw[aaG,aaQ (by rw[nS];exact h),<- aaG,Ps h]
theorem so{l r:List α}{d:α}(h:i<l.length):(l++r).getD i d=l.getD i d:=by
 rw[aaG,aaQ h,<- aaG]
theorem uP{l:List α}{x d:α}:(l++[x]).getD l.length d=x:=by simp
theorem ShH.left(h:ShH s T):ShH s (T++X):=λ F hF=>h F λ x hx=>hF x (aaC _ hx)
theorem ShH.right(h:ShH s X):ShH s (T++X):=λ F hF=>h F λ x hx=>hF x (aaB _ hx)
theorem BO{F:HL}{a b c:Nat}(hb:(b,.rows 2 1 (ak nT (kL 1)) 66 (0,0))∈F)(hc:(c,.rows 2 2 (ak nT (kL 2)) 66 (0,0))∈F):∀i:Nat,RowL nT 66 F (yJ a b c i) (kc i) (kL i)
 |0=>.zero _
 |1=>RowL.whole (xs:=kL 1) hb (aaI _)
 |_+2=>RowL.whole (xs:=kL 2) hc (aaI _)
structure SetG(xs:List Int)(S:Setup)(T:HL):Prop where
 pl:S.players=MJ xs
 nb:(S.nb:Int)=sm xs
 bo:S.bo=0
 cap:S.nb<=S.bc
 room:S.bo+S.nb<=S.bR
 nums:S.box=⟨-12000,-9000,12000,9000⟩/\S.fog=4000+(kv xs 1%9)*1000/\S.g=⟨0,(-((kv xs 2/36)%3))*40⟩/\S.push=((kv xs 1/9)%5)*100/\S.drag=(kv xs 2%4)*100/\S.rest=((kv xs 2/4)%3)*512/\S.rounds=1+(kv xs 2/12)%3/\S.fuel=60
 bod:∀j,j<S.nb->∃A c,S.body j=uO xs j A c
 sin:∀F,(S.bb,.rows 9 S.bR (jO S.bods) 75 (0,0))∈F->(∀x∈T,x∈F)->SetIn F S
 maps:(S.rn=3/\S.dn=kc (kv xs 3%3).toNat)/\∀F,(∀x∈T,x∈F)->MapIn F S sf (kL (kv xs 3%3).toNat)
theorem FC (cap:Nat)(hl:ArgL F A n xs)(hn:n<=9223372036854775807):aeo 4 #[.slice A n cap] (ap [] []) F (λ u H'=>∃x:Setup×HL,H'=ap [(x.1.bb,.rows 9 x.1.bR (jO x.1.bods) 75 (0,0))] [x.2]/\(u=Setup.v x.1/\SetG xs x.1 x.2)):=by
 refine QT Tryz.func4<|ae 17 [] λ n1=>aau<|aat (σ:=Nat×Option Addr×Nat×HL) (λ ⟨i,A_,c_,T_⟩=>⟨[(0,.slice A n cap),(2,vP (n1+0) 0),(3,.slice A_ i c_),(4,vI (i:Int))],[((n1+0),.lit [vI 0,.slice none 0 0,vI 0,vI 0,vI 0,vI 0,.slice none 0 0,.slice none 0 0,vI 0,vI 0,vI 0,vI 0,vI 0,vI 0,vI 0,vI 0] 34 (0,0))],[T_],i<=24/\SlIs Bq 3 (ks xs i) A_ c_ T_/\aX A_,24-i⟩) (0,none,0,[]) [0] [0] (⟨aaJ _,aay _ _,trivial⟩) ?_;rintro⟨i,A_,c_,T_⟩ ⟨hi_,U7,Va⟩ OF;refine OU 7<|aaq ((i:Int)<24) 12 (λ h4=>?_) λ h4=>?_
 ·refine OU 19<|aaq ((i:Int)<(n:Int)) 18 (λ h5=>?_) λ h5=>?_
  ·refine ae 4 [] λ _=>?_;obtain⟨qx6,Z4,Nx6,gx6,anA,akH,ZZ,acI,aiG,acW,ais⟩:=hl.at (k:=i) (by omega);refine aM 19 (congrArg (λ v_=>(.slice v_ n cap:Value)) ZZ)<|RN.ro (λ _=>(mc acI mn))<|ah 2 [.ix i,.rorow 0 (Z4+i) 0] [(Z4+i*1)=(Z4+i)*1+0/\(Z4+i)<Nx6,(i:Int)=((i:Nat):Int)/\i<n] λ _=>aM 22 (congrArg (λ v_=>(v_:Value)) acW)<|aal (kK (xs.getD i 0) 1000000 (by decide)) ?_;have hA7:=ee (n:=xs.getD i 0) ais 1000000 (by decide);refine ae 7 [] λ n8=>ez H5 [bj (xs.getD i 0) 1000000] 0 0 (nS xs i).symm U7 (by rw[nS];show i+1<=100000000;omega) ?_;rintro A9 Yu UQ ⟨Xq,acu⟩;refine ah 9 [.nw] [aI ((i:Int)+1)] λ _=>?_;have hz2:=acu Va;refine OF (i+1,A9,Yu,UQ) [1] [0] ?_
   try dsimp only
   refine⟨⟨by omega,?_,hz2⟩,by omega⟩;rw[CV,show kv xs i=_ from by unfold kv;rw[if_pos (by rw[hl.len];omega)]];exact Xq
  ·refine ae 7 [] λ n14=>ez H5 [0] 0 0 (nS xs i).symm U7 (by rw[nS];show i+1<=100000000;omega) ?_;rintro A15 c16 W6 ⟨XZ,acs⟩;refine ah 9 [.nw] [aI ((i:Int)+1)] λ _=>?_;have hz2:=acs Va;refine OF (i+1,A15,c16,W6) [1] [0] ?_
   try dsimp only
   refine⟨⟨by omega,?_,hz2⟩,by omega⟩;rw[CV,show kv xs i=_ from by unfold kv;rw[if_neg (by rw[hl.len];omega)]];exact XZ
 ·refine ae 7 [] λ _=>?_;have ei:i=24:=by omega
  subst ei;obtain⟨kb,rest,rfl,rfl,Xx⟩:=U7.open0 Va (by decide) (by rw[nS];decide);have hcap:24<=c_:=by rw[nS] at Xx;exact Xx
  refine RN.ot 0 (x:=(kb,.rows 1 c_ (ak Bq (ks xs 24++rest)) 3 (0,0))) ?_;have hk0:=iG hl 0;have Wl:=iG hl 1;have XH:=iG hl 2;have hk3:=iG hl 3;have hse:sm xs=1+kv xs 0%3+kv xs 3/3%3:=rfl;have hsc:=ru hl;have XD:=wD hl;refine aap [37] []<|aA [] [0,5,6,12,18,23,29,1,7,13,19,24,30,2,8,14,20,25,31,3,9,15,21,26,32,4,10,16,22,27,33,11,17,28,34,35] [.row 0 0 0,.row 0 1 0,.row 0 1 0,.row 0 2 0,.row 0 2 0,.row 0 2 0,.nw,.nw,.nw,.nw,.nw,.nw,.nw,.nw,.nw,.nw,.nw,.nw,.nw,.nw,.nw,.nw] [aI (1+(((kv xs 2)/12)%3)),aI ((((kv xs 2)/4)%3)*512),aI ((((kv xs 1)/9)%5)*100),aI (4000+(((kv xs 1)%9)*1000)),0<=(kv xs 2)/12/\(0:Int)<3/\(kv xs 2)/12<=9223372036854775807,0<=(kv xs 2)/4/\(0:Int)<3/\(kv xs 2)/4<=9223372036854775807,aI (((kv xs 2)%4)*100),0<=(kv xs 1)/9/\(0:Int)<5/\(kv xs 1)/9<=9223372036854775807,aI (((kv xs 1)%9)*1000),aI (1+((kv xs 0)%3)),0<=kv xs 2/\(0:Int)<12/\kv xs 2<=9223372036854775807,0<=kv xs 2/\(0:Int)<4/\kv xs 2<=9223372036854775807,0<=kv xs 2/\(0:Int)<4/\kv xs 2<=9223372036854775807,0<=kv xs 1/\(0:Int)<9/\kv xs 1<=9223372036854775807,0<=kv xs 1/\(0:Int)<9/\kv xs 1<=9223372036854775807,0<=kv xs 0/\(0:Int)<3/\kv xs 0<=9223372036854775807,2=2*1+0/\2<c_,2=2*1+0/\2<c_,2=2*1+0/\2<c_,1=1*1+0/\1<c_,1=1*1+0/\1<c_,0=0*1+0/\0<c_]<|aag 36 (aai [] [] λ Yy=>?_);refine SV 37 [] (ow 0 16)<|aaf<|ah 38 [.row 1 2 0,.nw,.nw,.nw,.nw,.o 0,.o 0,.o 1,.row 6 3 0,.nw] [0<=kv xs 3/\(0:Int)<3/\kv xs 3<=9223372036854775807,3=3*1+0/\3<c_,aI ((-(((kv xs 2)/36)%3))*40),-9223372036854775807<=((kv xs 2)/36)%3/\((kv xs 2)/36)%3<=9223372036854775808,0<=(kv xs 2)/36/\(0:Int)<3/\(kv xs 2)/36<=9223372036854775807,0<=kv xs 2/\(0:Int)<36/\kv xs 2<=9223372036854775807,2=2*1+0/\2<c_] λ UP=>aao 0 (.rows 1 3 (Dc (UP+1) (UP+2) (UP+3)) 30 (0,0))<|ah 13 [.ix (((kv xs 3)%3).toNat),.row 0 (((kv xs 3)%3).toNat) 0,.o 5] [(0+(((kv xs 3)%3).toNat)*1)=(((kv xs 3)%3).toNat)*1+0/\(((kv xs 3)%3).toNat)<3,(kv xs 3)%3=((((kv xs 3)%3).toNat:Nat):Int)/\((kv xs 3)%3).toNat<3] λ _=>aau<|aau<|aat (σ:=Nat×List Bod×Option Addr×Nat×HL×HL) (λ ⟨j,bods,B_,d_,V_,U_⟩=>⟨[(2,vP (n1+0) 0),(3,vS kb 0 24 c_),(6,vP (Yy+0) 0),(7,vI (j:Int))],[((UP+4),.rows 1 3 (Dc (UP+1) (UP+2) (UP+3)) 30 (0,0)),((UP+3),.lit [vI 0,vI 2,vI 1,vI 2] 66 (0,0)),((UP+2),.lit [vI 0,vI 1] 66 (0,0)),((UP+1),.lit [] 66 (0,0)),((UP+0),.lit [vI (-12000),vI (-9000),vI (-1),vI 9000,vI 0,vI 0,vI 12000,vI 9000,vI 0,vI (-9000),vI 12000,vI (-1)] 28 (0,0)),((Yy+0),.lit [vI (1+((kv xs 0)%3)),.slice B_ j d_,vI (-12000),vI (-9000),vI 12000,vI 9000,vS (UP+0) 0 3 3,.slice (yJ (UP+1) (UP+2) (UP+3) (((kv xs 3)%3).toNat)) (kc (((kv xs 3)%3).toNat)) (kc (((kv xs 3)%3).toNat)),vI (4000+(((kv xs 1)%9)*1000)),vI 0,vI ((-(((kv xs 2)/36)%3))*40),vI ((((kv xs 1)/9)%5)*100),vI (((kv xs 2)%4)*100),vI ((((kv xs 2)/4)%3)*512),vI (1+(((kv xs 2)/12)%3)),vI 60] 34 (0,0)),(kb,.rows 1 c_ (ak Bq (ks xs 24++rest)) 3 (0,0)),((n1+0),.lit [vI 0,.slice none 0 0,vI 0,vI 0,vI 0,vI 0,.slice none 0 0,.slice none 0 0,vI 0,vI 0,vI 0,vI 0,vI 0,vI 0,vI 0,vI 0] 34 (0,0))],[V_,U_],(j:Int)<=sm xs/\bods.length=j/\(∀t,t<j->∃A c,bods.getD t dB=uO xs t A c)/\(∀t,t<j->ShH (bods.getD t dB).sh U_)/\SlIs lE 75 bods B_ d_ V_/\aX B_,(sm xs).toNat-j⟩) (0,[],none,0,[],[]) [0,1,2,3,4,5,6,7] [0,1] (⟨by show (0:Int)<=_;omega,rfl,λ t ht=>absurd ht (pt _),λ t ht=>absurd ht (pt _),aay _ _,trivial⟩) ?_;rintro⟨j,bods,B_,d_,V_,U_⟩ ⟨hj_,Wd,hb_,Zs,aaZ,aeO⟩ ahM;refine OU 2<|aap [] []<|aA [] [0,1,3,2,4,5,6,7,8,9] [.o 5,.row 6 3 0,.nw,.nw,.nw] [aI ((1+((kv xs 0)%3))+(((kv xs 3)/3)%3)),0<=(kv xs 3)/3/\(0:Int)<3/\(kv xs 3)/3<=9223372036854775807,0<=kv xs 3/\(0:Int)<3/\kv xs 3<=9223372036854775807,3=3*1+0/\3<c_]<|Q2 1<|aaq ((j:Int)<(1+((kv xs 0)%3))+(((kv xs 3)/3)%3)) 101 (λ h24=>?_) λ h24=>?_
  ·refine ah 13 [.nw,.nw,.ix ((4+(2*(j:Int))).toNat),.row 6 ((4+(2*(j:Int))).toNat) 0] [(0+((4+(2*(j:Int))).toNat)*1)=((4+(2*(j:Int))).toNat)*1+0/\((4+(2*(j:Int))).toNat)<c_,4+(2*(j:Int))=(((4+(2*(j:Int))).toNat:Nat):Int)/\(4+(2*(j:Int))).toNat<24,aI (4+(2*(j:Int))),aI (2*(j:Int))] λ _=>aM 109 (congrArg (λ v_=>(vI v_:Value)) (Jk (xs:=xs) (rest:=rest) (n:=24) (i:=4+2*j) (by omega))) ?_;have hbN:=iG hl (4+2*j);rw[show kv xs (4+2*j)=bN xs j from rfl] at hbN;refine ah 11 [.nw,.nw,.ix ((5+(2*(j:Int))).toNat),.row 6 ((5+(2*(j:Int))).toNat) 0] [(0+((5+(2*(j:Int))).toNat)*1)=((5+(2*(j:Int))).toNat)*1+0/\((5+(2*(j:Int))).toNat)<c_,5+(2*(j:Int))=(((5+(2*(j:Int))).toNat:Nat):Int)/\(5+(2*(j:Int))).toNat<24,aI (5+(2*(j:Int))),aI (2*(j:Int))] λ _=>aM 115 (congrArg (λ v_=>(vI v_:Value)) (Jk (xs:=xs) (rest:=rest) (n:=24) (i:=5+2*j) (by omega))) ?_;have hbM:=iG hl (5+2*j);rw[show kv xs (5+2*j)=bM xs j from rfl] at hbM;refine OU 6<|SP (yd (bN xs j)) ?_;rintro _ ⟨A25,c26,T27⟩ ⟨rfl,abS⟩;dsimp only at abS;refine ah 37 ([.nw,.nw]++ow 0 9++[.nw,.nw,.nw,.nw,.nw,.nw,.nw,.nw,.nw,.nw,.nw,.nw,.nw,.nw,.nw,.nw,.nw,.nw]) [0<=(bM xs j)/5000/\(0:Int)<5/\(bM xs j)/5000<=9223372036854775807,0<=bM xs j/\(0:Int)<5000/\bM xs j<=9223372036854775807,aI (((((bN xs j)/13000)%9)-4)*300),aI ((((bN xs j)/13000)%9)-4),0<=(bN xs j)/13000/\(0:Int)<9/\(bN xs j)/13000<=9223372036854775807,0<=bN xs j/\(0:Int)<13000/\bN xs j<=9223372036854775807,aI (((((bM xs j)/550)%9)-4)*300),aI ((((bM xs j)/550)%9)-4),0<=(bM xs j)/550/\(0:Int)<9/\(bM xs j)/550<=9223372036854775807,0<=bM xs j/\(0:Int)<550/\bM xs j<=9223372036854775807,aI (((((bM xs j)/50)%11)-5)*800),aI ((((bM xs j)/50)%11)-5),0<=(bM xs j)/50/\(0:Int)<11/\(bM xs j)/50<=9223372036854775807,0<=bM xs j/\(0:Int)<50/\bM xs j<=9223372036854775807,aI (((((bN xs j)/1000)%13)-6)*900),aI ((((bN xs j)/1000)%13)-6),0<=(bN xs j)/1000/\(0:Int)<13/\(bN xs j)/1000<=9223372036854775807,0<=bN xs j/\(0:Int)<1000/\bN xs j<=9223372036854775807,0<=bN xs j/\(0:Int)<7/\bN xs j<=9223372036854775807,0<=bM xs j/\(0:Int)<50/\bM xs j<=9223372036854775807] λ n29=>aao 0 (.rows 1 5 (bF [1024,1024,512,2048,0]) 3 (0,0))<|ah 12 ([.ix ((((bM xs j)/5000)%5).toNat),.row 0 ((((bM xs j)/5000)%5).toNat) 0]++ow 1 5++[.o 7]++ow 1 9) [(0+((((bM xs j)/5000)%5).toNat)*1)=((((bM xs j)/5000)%5).toNat)*1+0/\((((bM xs j)/5000)%5).toNat)<5,((bM xs j)/5000)%5=(((((bM xs j)/5000)%5).toNat:Nat):Int)/\(((bM xs j)/5000)%5).toNat<5] λ n30=>ez Be [uO xs j A25 c26] 1 0 Wd.symm aaZ (by rw[Wd];show j+1<=100000000;omega) ?_;rintro A31 c32 T33 ⟨Zt,acq⟩;refine ah 10 [.o 8,.nw] [aI ((j:Int)+1)] λ _=>?_;have hz2:=acq aeO;refine uq [2,1,0]<|xL<|ahM (j+1,bods++[(uO xs j A25 c26)],A31,c32,T33,U_++T27) [3,4,5,6,7,8,9,10] [1,0] ?_
   try dsimp only
   refine⟨⟨by omega,by rw[aaK,Wd];rfl,?_,?_,Zt,hz2⟩,by omega⟩
   ·intro t ht;rcases aaV t j with h|h
    ·rw[so (by omega)];exact hb_ t h
    ·have:t=bods.length:=by omega
     subst this;rw[uP,Wd];exact⟨_,_,rfl⟩
   ·intro t ht;rcases aaV t j with h|h
    ·rw[so (by omega)];exact(Zs t h).left
    ·have:t=bods.length:=by omega
     subst this;rw[uP];exact ShH.right abS
  ·refine ae 7 [] λ _=>?_;have ej:(j:Int)=sm xs:=by unfold sm MJ;unfold sm MJ at hj_;omega
   obtain⟨bb,WH,rfl,rfl,V8⟩:=aaZ.open0 aeO (by decide) (by rw[Wd];omega);refine RN.ot 0 (x:=(bb,.rows 9 d_ (ak lE (bods++WH)) 75 (0,0)))<|SO 5 (ow 6 16++ow 8 16)<|aao 5 (.rows 4 3 (ak ye sf) 28 (0,0))<|aao 3 (.rows 2 1 (ak nT (kL 1)) 66 (0,0))<|aao 2 (.rows 2 2 (ak nT (kL 2)) 66 (0,0))<|QV (ow 8 16) [0,5,3,2] [0] (.agg #[vI (1+((kv xs 0)%3)),vS bb 0 j d_,vI (-12000),vI (-9000),vI 12000,vI 9000,vS (UP+0) 0 3 3,.slice (yJ (UP+1) (UP+2) (UP+3) (((kv xs 3)%3).toNat)) (kc (((kv xs 3)%3).toNat)) (kc (((kv xs 3)%3).toNat)),vI (4000+(((kv xs 1)%9)*1000)),vI 0,vI ((-(((kv xs 2)/36)%3))*40),vI ((((kv xs 1)/9)%5)*100),vI (((kv xs 2)%4)*100),vI ((((kv xs 2)/4)%3)*512),vI (1+(((kv xs 2)/12)%3)),vI 60]) (ap [(bb,.rows 9 d_ (ak lE (bods++WH)) 75 (0,0)),((UP+0),.rows 4 3 (ak ye sf) 28 (0,0)),((UP+2),.rows 2 1 (ak nT (kL 1)) 66 (0,0)),((UP+3),.rows 2 2 (ak nT (kL 2)) 66 (0,0))] [U_]) ?_;have ZO:∀k,k<j->(bods++WH).getD (0+k) dB=bods.getD k dB:=λ k hk=>by rw[abp,so (by omega)]
   refine⟨((⟨1+((kv xs 0)%3),bb,0,j,d_,d_,bods++WH,⟨-12000,-9000,12000,9000⟩,some ⟨(UP+0),0,none⟩,3,3,yJ (UP+1) (UP+2) (UP+3) (kv xs 3%3).toNat,kc (kv xs 3%3).toNat,kc (kv xs 3%3).toNat,4000+(((kv xs 1)%9)*1000),⟨0,(-(((kv xs 2)/36)%3))*40⟩,(((kv xs 1)/9)%5)*100,((kv xs 2)%4)*100,(((kv xs 2)/4)%3)*512,1+(((kv xs 2)/12)%3),60⟩:Setup),[((UP+0),.rows 4 3 (ak ye sf) 28 (0,0)),((UP+2),.rows 2 1 (ak nT (kL 1)) 66 (0,0)),((UP+3),.rows 2 2 (ak nT (kL 2)) 66 (0,0))]++U_),(by simp[ap]),rfl,?_⟩;refine⟨rfl,ej,rfl,(by rw[Wd] at V8;exact V8),(by rw[Wd] at V8;show 0+j<=d_;omega),⟨rfl,rfl,rfl,rfl,rfl,rfl,rfl,rfl⟩,λ k hk=>?_,λ F hbF hF=>⟨⟨by show (0:Int)<=1+kv xs 0%3/\1+kv xs 0%3<=1000000;omega,by show j<=1000000;omega⟩,hbF,by show 0+j<=d_;rw[Wd] at V8;omega,λ k hk=>?_⟩,⟨⟨rfl,rfl⟩,λ F hF=>⟨RowL.whole (xs:=sf) (hF _ (aaC _ (aaD))) (aaI _),BO (hF _ (aaC _ (aaE _ (aaD)))) (hF _ (aaC _ (aaE _ (aaE _ (aaD))))) _⟩⟩⟩
   ·obtain⟨A,c,h⟩:=hb_ k hk;exact⟨A,c,by show (bods++WH).getD (0+k) dB=_;rw[ZO k hk];exact h⟩
   ·show ShIn F ((bods++WH).getD (0+k) dB).sh;rw[ZO k hk];exact Zs k hk F λ x hx=>hF x (by simp[hx])
end
section
variable {A:Option Addr} {F:HL} {N b k n q:Nat} {S:Setup} {a:Addr} {ds:List Dr} {full:List V2} {fz:Nat×Nat} {hi lo:Int} {ns:List Int} {rs:List Bx} {s:Shp} {xs:List Bod} (o cap:Nat)
def TP(pl:Int)(xs:List Int)(t:Int)(q:Nat):Int:=if xs.length>0 then bj (xs.getD ((t*pl+(q:Int))%(xs.length:Int)).toNat 0) 1000000 else 0
def RM(n:Int):Inp:=⟨n%3-1,n/3%3-1,if n/9%3=0 then n/27%4 else 0⟩
def TQ(pl:Int)(xs:List Int)(t:Int)(q:Nat):Inp:=RM (TP pl xs t q)
def rowL(pl:Int)(xs:List Int)(t:Int)(n:Nat):List Inp:=(List.range n).map (TQ pl xs t)
theorem qM (c:Nat)(hl:SrcIn Tryz.prog lE F (some a) n xs)(hb:n<=100000000):aeo 75 #[.slice (some a) n c] [] F (λ u H'=>∃x:Option Addr×Nat×HL,H'=ap [] [x.2.2]/\(u=.slice x.1 n x.2.1/\ClS lE 75 xs x.1 x.2.1 x.2.2)):=by
 refine QT Tryz.func75<|ae 19 [] λ n1=>aau<|mD (A:=(some ⟨(n1+0),0,none⟩)) (B:=(some a)) (c':=c) Be xs 0 (λ a_ e_=>by cases e_;rfl) (m:=n) (tx:=26) hl.1.1.symm (by rw[hl.1.1];exact hb) (λ e_ he X w hR=>hl.2 c he X w hR) ?_;rintro A2 c3 T4 XE;refine OU 3<|QV [] [] [0] (.slice A2 xs.length c3) (ap [] [T4]) ⟨(A2,c3,T4),rfl,by rw[hl.1.1],_,XE⟩
theorem qN(c:Nat)(F:HL):aeo 75 #[.slice none 0 c] [] F (λ u H'=>∃x:Option Addr×Nat×HL,H'=ap [] [x.2.2]/\(u=.slice x.1 0 x.2.1/\ClS lE 75 [] x.1 x.2.1 x.2.2)):=by
 refine QT Tryz.func75<|ae 18 [] λ _=>QW _ _ ⟨(none,0,[]),rfl,rfl,.nil _ _ _⟩
theorem sr (c:Nat)(hl:SrcIn Tryz.prog lE F A n xs)(hb:n<=100000000):aeo 75 #[.slice A n c] (ap [] []) F (λ u H'=>∃x:Option Addr×Nat×HL,H'=ap [] [x.2.2]/\(u=.slice x.1 n x.2.1/\ClS lE 75 xs x.1 x.2.1 x.2.2)):=by
 cases A with
 |some a=>exact qM c hl hb
 |none=>
  obtain rfl:n=0:=hl.1.2 rfl;obtain rfl:xs=[]:=aaU hl.1.1;exact qN c F
theorem su (c:Nat){xs:List V2}(hl:SrcIn Tryz.prog jg F (some a) n xs)(hb:n<=100000000):aeo 76 #[.slice (some a) n c] [] F (λ u H'=>∃x:Option Addr×Nat×HL,H'=ap [] [x.2.2]/\(u=.slice x.1 n x.2.1/\ClS jg 32 xs x.1 x.2.1 x.2.2)):=by
 refine QT Tryz.func76<|ae 19 [] λ n1=>aau<|mD (A:=(some ⟨(n1+0),0,none⟩)) (B:=(some a)) (c':=c) lX xs 0 (λ a_ e_=>by cases e_;rfl) (m:=n) (tx:=68) hl.1.1.symm (by rw[hl.1.1];exact hb) (λ e_ he X w hR=>hl.2 c he X w hR) ?_;rintro A2 c3 T4 XE;refine OU 3<|QV [] [] [0] (.slice A2 xs.length c3) (ap [] [T4]) ⟨(A2,c3,T4),rfl,by rw[hl.1.1],_,XE⟩
theorem sw(c:Nat)(F:HL):aeo 76 #[.slice none 0 c] [] F (λ u H'=>∃x:Option Addr×Nat×HL,H'=ap [] [x.2.2]/\(u=.slice x.1 0 x.2.1/\ClS jg 32 [] x.1 x.2.1 x.2.2)):=by
 refine QT Tryz.func76<|ae 18 [] λ _=>QW _ _ ⟨(none,0,[]),rfl,rfl,.nil _ _ _⟩
theorem tS (c:Nat){xs:List V2}(hl:SrcIn Tryz.prog jg F A n xs)(hb:n<=100000000):aeo 76 #[.slice A n c] (ap [] []) F (λ u H'=>∃x:Option Addr×Nat×HL,H'=ap [] [x.2.2]/\(u=.slice x.1 n x.2.1/\ClS jg 32 xs x.1 x.2.1 x.2.2)):=by
 cases A with
 |some a=>exact su c hl hb
 |none=>
  obtain rfl:n=0:=hl.1.2 rfl;obtain rfl:xs=[]:=aaU hl.1.1;exact sw c F
theorem sx (c:Nat){xs:List Bx}(hl:SrcIn Tryz.prog ye F (some a) n xs)(hb:n<=100000000):aeo 77 #[.slice (some a) n c] [] F (λ u H'=>∃x:Option Addr×Nat×HL,H'=ap [] [x.2.2]/\(u=.slice x.1 n x.2.1/\ClS ye 28 xs x.1 x.2.1 x.2.2)):=by
 refine QT Tryz.func77<|ae 19 [] λ n1=>aau<|mD (A:=(some ⟨(n1+0),0,none⟩)) (B:=(some a)) (c':=c) Oq xs 0 (λ a_ e_=>by cases e_;rfl) (m:=n) (tx:=29) hl.1.1.symm (by rw[hl.1.1];exact hb) (λ e_ he X w hR=>hl.2 c he X w hR) ?_;rintro A2 c3 T4 XE;refine OU 3<|QV [] [] [0] (.slice A2 xs.length c3) (ap [] [T4]) ⟨(A2,c3,T4),rfl,by rw[hl.1.1],_,XE⟩
theorem sy(c:Nat)(F:HL):aeo 77 #[.slice none 0 c] [] F (λ u H'=>∃x:Option Addr×Nat×HL,H'=ap [] [x.2.2]/\(u=.slice x.1 0 x.2.1/\ClS ye 28 [] x.1 x.2.1 x.2.2)):=by
 refine QT Tryz.func77<|ae 18 [] λ _=>QW _ _ ⟨(none,0,[]),rfl,rfl,.nil _ _ _⟩
theorem tT (c:Nat){xs:List Bx}(hl:SrcIn Tryz.prog ye F A n xs)(hb:n<=100000000):aeo 77 #[.slice A n c] (ap [] []) F (λ u H'=>∃x:Option Addr×Nat×HL,H'=ap [] [x.2.2]/\(u=.slice x.1 n x.2.1/\ClS ye 28 xs x.1 x.2.1 x.2.2)):=by
 cases A with
 |some a=>exact sx c hl hb
 |none=>
  obtain rfl:n=0:=hl.1.2 rfl;obtain rfl:xs=[]:=aaU hl.1.1;exact sy c F
theorem qO (c:Nat){xs:List Dr}(hl:SrcIn Tryz.prog nT F (some a) n xs)(hb:n<=100000000):aeo 78 #[.slice (some a) n c] [] F (λ u H'=>∃x:Option Addr×Nat×HL,H'=ap [] [x.2.2]/\(u=.slice x.1 n x.2.1/\ClS nT 66 xs x.1 x.2.1 x.2.2)):=by
 refine QT Tryz.func78<|ae 19 [] λ n1=>aau<|mD (A:=(some ⟨(n1+0),0,none⟩)) (B:=(some a)) (c':=c) Ot xs 0 (λ a_ e_=>by cases e_;rfl) (m:=n) (tx:=30) hl.1.1.symm (by rw[hl.1.1];exact hb) (λ e_ he X w hR=>hl.2 c he X w hR) ?_;rintro A2 c3 T4 XE;refine OU 3<|QV [] [] [0] (.slice A2 xs.length c3) (ap [] [T4]) ⟨(A2,c3,T4),rfl,by rw[hl.1.1],_,XE⟩
theorem qP(c:Nat)(F:HL):aeo 78 #[.slice none 0 c] [] F (λ u H'=>∃x:Option Addr×Nat×HL,H'=ap [] [x.2.2]/\(u=.slice x.1 0 x.2.1/\ClS nT 66 [] x.1 x.2.1 x.2.2)):=by
 refine QT Tryz.func78<|ae 18 [] λ _=>QW _ _ ⟨(none,0,[]),rfl,rfl,.nil _ _ _⟩
theorem sA (c:Nat){xs:List Dr}(hl:SrcIn Tryz.prog nT F A n xs)(hb:n<=100000000):aeo 78 #[.slice A n c] (ap [] []) F (λ u H'=>∃x:Option Addr×Nat×HL,H'=ap [] [x.2.2]/\(u=.slice x.1 n x.2.1/\ClS nT 66 xs x.1 x.2.1 x.2.2)):=by
 cases A with
 |some a=>exact qO c hl hb
 |none=>
  obtain rfl:n=0:=hl.1.2 rfl;obtain rfl:xs=[]:=aaU hl.1.1;exact qP c F
theorem sB (c:Nat){xs:List Ins}(hl:SrcIn Tryz.prog lF F (some a) n xs)(hb:n<=100000000):aeo 170 #[.slice (some a) n c] [] F (λ u H'=>∃x:Option Addr×Nat×HL,H'=ap [] [x.2.2]/\(u=.slice x.1 n x.2.1/\ClS lF 212 xs x.1 x.2.1 x.2.2)):=by
 refine QT Tryz.func170<|ae 19 [] λ n1=>aau<|mD (A:=(some ⟨(n1+0),0,none⟩)) (B:=(some a)) (c':=c) HO xs 0 (λ a_ e_=>by cases e_;rfl) (m:=n) (tx:=108) hl.1.1.symm (by rw[hl.1.1];exact hb) (λ e_ he X w hR=>hl.2 c he X w hR) ?_;rintro A2 c3 T4 XE;refine OU 3<|QV [] [] [0] (.slice A2 xs.length c3) (ap [] [T4]) ⟨(A2,c3,T4),rfl,by rw[hl.1.1],_,XE⟩
theorem sC(c:Nat)(F:HL):aeo 170 #[.slice none 0 c] [] F (λ u H'=>∃x:Option Addr×Nat×HL,H'=ap [] [x.2.2]/\(u=.slice x.1 0 x.2.1/\ClS lF 212 [] x.1 x.2.1 x.2.2)):=by
 refine QT Tryz.func170<|ae 18 [] λ _=>QW _ _ ⟨(none,0,[]),rfl,rfl,.nil _ _ _⟩
theorem nz (c:Nat){xs:List Ins}(hl:SrcIn Tryz.prog lF F A n xs)(hb:n<=100000000):aeo 170 #[.slice A n c] (ap [] []) F (λ u H'=>∃x:Option Addr×Nat×HL,H'=ap [] [x.2.2]/\(u=.slice x.1 n x.2.1/\ClS lF 212 xs x.1 x.2.1 x.2.2)):=by
 cases A with
 |some a=>exact sB c hl hb
 |none=>
  obtain rfl:n=0:=hl.1.2 rfl;obtain rfl:xs=[]:=aaU hl.1.1;exact sC c F
theorem pK (c:Nat){xs:List Inp}(hl:SrcIn Tryz.prog bS F (some a) n xs)(hb:n<=100000000):aeo 42 #[.slice (some a) n c] [] F (λ u H'=>∃x:Option Addr×Nat×HL,H'=ap [] [x.2.2]/\(u=.slice x.1 n x.2.1/\ClS bS 24 xs x.1 x.2.1 x.2.2)):=by
 refine QT Tryz.func42<|ae 19 [] λ n1=>aau<|mD (A:=(some ⟨(n1+0),0,none⟩)) (B:=(some a)) (c':=c) fM xs 0 (λ a_ e_=>by cases e_;rfl) (m:=n) (tx:=25) hl.1.1.symm (by rw[hl.1.1];exact hb) (λ e_ he X w hR=>hl.2 c he X w hR) ?_;rintro A2 c3 T4 XE;refine OU 3<|QV [] [] [0] (.slice A2 xs.length c3) (ap [] [T4]) ⟨(A2,c3,T4),rfl,by rw[hl.1.1],_,XE⟩
theorem pL(c:Nat)(F:HL):aeo 42 #[.slice none 0 c] [] F (λ u H'=>∃x:Option Addr×Nat×HL,H'=ap [] [x.2.2]/\(u=.slice x.1 0 x.2.1/\ClS bS 24 [] x.1 x.2.1 x.2.2)):=by
 refine QT Tryz.func42<|ae 18 [] λ _=>QW _ _ ⟨(none,0,[]),rfl,rfl,.nil _ _ _⟩
theorem lu(A:Option Addr)(n c:Nat)(xs:List Inp)(hl:SrcIn Tryz.prog bS F A n xs)(hb:n<=100000000):aeo 42 #[.slice A n c] (ap [] []) F (λ u H'=>∃x:Option Addr×Nat×HL,H'=ap [] [x.2.2]/\(u=.slice x.1 n x.2.1/\ClS bS 24 xs x.1 x.2.1 x.2.2)):=by
 cases A with
 |some a=>exact pK c hl hb
 |none=>
  obtain rfl:n=0:=hl.1.2 rfl;obtain rfl:xs=[]:=aaU hl.1.1;exact pL c F
def eK(lo hi:Int)(ns:List Int):Prop:=∀k,k<ns.length->lo<=ns.getD k 0/\ns.getD k 0<=hi
instance (lo hi:Int) (ns:List Int):Decidable (eK lo hi ns):=inferInstanceAs (Decidable (∀k,k<ns.length->_))
theorem sD:eK lo hi []:=λ k hk=>absurd hk (pt _)
theorem pM{x:Int}:eK lo hi (x::ns)↔(lo<=x/\x<=hi)/\eK lo hi ns:=by
 constructor
 ·intro h;exact⟨h 0 (Nat.succ_pos _),λ k hk=>h (k+1) (Nat.succ_lt_succ hk)⟩
 ·rintro⟨h1,h2⟩ k hk;cases k with
  |zero=>exact h1
  |succ k=>exact h2 k (Nat.lt_of_succ_lt_succ hk)
theorem eE(lo hi:Int)(hq:(q,.rows 1 ns.length (bF ns) 3 (0,0))∈F)(hn:ns.length<=1000000):aen 107 #[vI lo,vI hi,vS q 0 ns.length ns.length] F (.bool (decide (eK lo hi ns))):=by
 refine QU Tryz.func107 hq<|OU 14<|aat (σ:=Nat) (λ k=>⟨[(0,vI lo),(1,vI hi),(9,vS q 0 ns.length ns.length),(10,vI (ns.length:Int)),(11,vI (k:Int))],[],[],k<=ns.length/\∀t,t<k->lo<=ns.getD t 0/\ns.getD t 0<=hi,ns.length-k⟩) 0 [] [] (⟨aaJ _,λ t ht=>absurd ht (pt _)⟩) ?_;rintro k ⟨hkl,hwk⟩ Vx;refine OU 6<|aaq ((k:Int)<(ns.length:Int)) 12 (λ h3=>?_) λ h3=>?_
 ·refine ah 18 [.ix k,.rorow 0 k 0] [(0+k*1)=k*1+0/\k<ns.length,(k:Int)=((k:Nat):Int)/\k<ns.length] λ _=>aaq (ns.getD k 0<lo) 18 (λ h4=>?_) λ h4=>?_
  ·refine ae 12 [] λ _=>QW (.bool false) _ ⟨by rw[abh (show ¬ eK lo hi ns from λ h_=>by have:=h_ k (by omega);omega)],rfl⟩
  ·refine OU 6<|aaq (ns.getD k 0>hi) 22 (λ h5=>?_) λ h5=>?_
   ·refine ae 6 [] λ _=>QW (.bool false) _ ⟨by rw[abh (show ¬ eK lo hi ns from λ h_=>by have:=h_ k (by omega);omega)],rfl⟩
   ·refine ah 8 [.nw] [aI ((k:Int)+1)] λ _=>Vx (k+1) [] [] ?_
    try dsimp only
    refine⟨⟨by omega,λ t ht=>?_⟩,by omega⟩;rcases aaV t k with h_|h_
    ·exact hwk t h_
    ·obtain rfl:t=k:=by omega
     exact⟨by omega,by omega⟩
 ·refine ae 11 [] λ _=>QW (.bool true) _ ⟨by rw[abk (show eK lo hi ns from λ t ht=>hwk t (by omega))],rfl⟩
def gM(b:Bx):Prop:=(b.x0<=b.x1/\b.y0<=b.y1)/\eK (-1048576) 1048576 [b.x0,b.y0,b.x1,b.y1]
instance (b:Bx):Decidable (gM b):=inferInstanceAs (Decidable (_/\_))
def fR(b:Bod)(x:Bx):Prop:=eK 0 4096 [b.mot.inv]/\eK (-16384) 16384 [b.mot.vx,b.mot.vy]/\eK x.x0 x.x1 [b.mot.px]/\eK x.y0 x.y1 [b.mot.py]/\eK (-2147483647) 2147483647 [b.a,b.b]
instance (b:Bod) (x:Bx):Decidable (fR b x):=inferInstanceAs (Decidable (_/\_))
def ke(S:Setup):Prop:=eK 1 8 [S.players]/\eK S.players 24 [(S.nb:Int)]/\eK 0 4194304 [S.fog]/\eK (-16384) 16384 [S.g.x,S.g.y]/\eK 0 16384 [S.push]/\eK 0 1024 [S.drag,S.rest]/\eK 1 4 [S.rounds]/\eK 0 1000 [S.fuel]
instance (S:Setup):Decidable (ke S):=inferInstanceAs (Decidable (_/\_))
theorem sE(b:Bx):aen 72 #[.agg #[vI b.x0,vI b.y0,vI b.x1,vI b.y1]] F (.bool (decide (gM b))):=by
 refine QT Tryz.func72<|ae 14 (aab 2) λ n1=>aaq (b.x0<=b.x1) 8 (λ h2=>?_) λ h2=>?_
 ·refine SO 7 (aab 2)<|aaq (b.y0<=b.y1) 15 (λ h3=>?_) λ h3=>?_
  ·refine ae 9 (aab 4) λ n4=>aao 0 (.rows 1 4 (bF [b.x0,b.y0,b.x1,b.y1]) 3 (0,0))<|aal (eE (-1048576) 1048576 (ns:=[b.x0,b.y0,b.x1,b.y1]) (q:=n4+0) (aw 0) (aaH rfl))<|ae 4 [] λ _=>QW (.bool (decide (eK (-1048576) 1048576 [b.x0,b.y0,b.x1,b.y1]))) _ ⟨by simp[gM, *],rfl⟩
  ·refine ae 14 [] λ _=>QW (.bool false) _ ⟨by simp[gM, *],rfl⟩
 ·refine ae 21 [] λ _=>QW (.bool false) _ ⟨by simp[gM, *],rfl⟩
theorem FD(b:Bod)(x:Bx):aen 74 #[.agg #[vI b.sh.r,.slice b.sh.A b.sh.poly.length b.sh.cap,vI b.mot.px,vI b.mot.py,vI b.mot.vx,vI b.mot.vy,vI b.mot.inv,vI b.a,vI b.b],.agg #[vI x.x0,vI x.y0,vI x.x1,vI x.y1]] F (.bool (decide (fR b x))):=by
 refine QT Tryz.func74<|ae 20 (ow 1 5++ow 0 6) λ n1=>aao 0 (.rows 1 1 (bF [b.mot.inv]) 3 (0,0))<|aal (eE 0 4096 (ns:=[b.mot.inv]) (q:=n1+3) (aw 0) (aaH rfl))<|OU 1<|aaq (eK 0 4096 [b.mot.inv]) 12 (λ h2=>?_) λ h2=>?_
 ·refine ae 7 [.o 1,.o 1] λ n3=>aao 0 (.rows 1 2 (bF [b.mot.vx,b.mot.vy]) 3 (0,0))<|aal (eE (-16384) 16384 (ns:=[b.mot.vx,b.mot.vy]) (q:=n3+0) (aw 0) (aaH rfl))<|OU 2<|aaq (eK (-16384) 16384 [b.mot.vx,b.mot.vy]) 22 (λ h4=>?_) λ h4=>?_
  ·refine ae 8 [.o 3,.o 3,.o 2] λ n5=>aao 0 (.rows 1 1 (bF [b.mot.px]) 3 (0,0))<|aal (eE x.x0 x.x1 (ns:=[b.mot.px]) (q:=n5+0) (aw 0) (aaH rfl))<|OU 2<|aaq (eK x.x0 x.x1 [b.mot.px]) 33 (λ h6=>?_) λ h6=>?_
   ·refine ae 8 [.o 4,.o 4,.o 3] λ n7=>aao 0 (.rows 1 1 (bF [b.mot.py]) 3 (0,0))<|aal (eE x.y0 x.y1 (ns:=[b.mot.py]) (q:=n7+0) (aw 0) (aaH rfl))<|OU 2<|aaq (eK x.y0 x.y1 [b.mot.py]) 44 (λ h8=>?_) λ h8=>?_
    ·refine ae 5 [.o 6,.o 6] λ n9=>aao 0 (.rows 1 2 (bF [b.a,b.b]) 3 (0,0))<|aal (eE (-2147483647) 2147483647 (ns:=[b.a,b.b]) (q:=n9+0) (aw 0) (aaH rfl))<|ae 4 [] λ _=>QW (.bool (decide (eK (-2147483647) 2147483647 [b.a,b.b]))) _ ⟨by simp[fR, *],rfl⟩
    ·refine ae 10 [] λ _=>QW (.bool false) _ ⟨by simp[fR, *],rfl⟩
   ·refine ae 21 [] λ _=>QW (.bool false) _ ⟨by simp[fR, *],rfl⟩
  ·refine ae 32 [] λ _=>QW (.bool false) _ ⟨by simp[fR, *],rfl⟩
 ·refine ae 42 [] λ _=>QW (.bool false) _ ⟨by simp[fR, *],rfl⟩
theorem Jl(S:Setup):aen 71 #[(Setup.v S)] F (.bool (decide (ke S))):=by
 refine QT Tryz.func71<|ae 11 [.o 0] λ n1=>aao 0 (.rows 1 1 (bF [S.players]) 3 (0,0))<|aal (eE 1 8 (ns:=[S.players]) (q:=n1+1) (aw 0) (aaH rfl))<|OU 1<|aaq (eK 1 8 [S.players]) 7 (λ h2=>?_) λ h2=>?_
 ·refine ae 6 [.o 1,.o 1] λ n3=>aao 0 (.rows 1 1 (bF [(S.nb:Int)]) 3 (0,0))<|aal (eE S.players 24 (ns:=[(S.nb:Int)]) (q:=n3+0) (aw 0) (aaH rfl))<|OU 2<|aaq (eK S.players 24 [(S.nb:Int)]) 16 (λ h4=>?_) λ h4=>?_
  ·refine ae 3 [.o 2] λ n5=>aao 0 (.rows 1 1 (bF [S.fog]) 3 (0,0))<|aal (eE 0 4194304 (ns:=[S.fog]) (q:=n5+0) (aw 0) (aaH rfl))<|OU 2<|aaq (eK 0 4194304 [S.fog]) 22 (λ h6=>?_) λ h6=>?_
   ·refine ae 7 [.o 3,.o 3] λ n7=>aao 0 (.rows 1 2 (bF [S.g.x,S.g.y]) 3 (0,0))<|aal (eE (-16384) 16384 (ns:=[S.g.x,S.g.y]) (q:=n7+0) (aw 0) (aaH rfl))<|OU 2<|aaq (eK (-16384) 16384 [S.g.x,S.g.y]) 32 (λ h8=>?_) λ h8=>?_
    ·refine ae 3 [.o 4] λ n9=>aao 0 (.rows 1 1 (bF [S.push]) 3 (0,0))<|aal (eE 0 16384 (ns:=[S.push]) (q:=n9+0) (aw 0) (aaH rfl))<|OU 2<|aaq (eK 0 16384 [S.push]) 38 (λ No=>?_) λ No=>?_
     ·refine ae 5 [.o 5,.o 5] λ n11=>aao 0 (.rows 1 2 (bF [S.drag,S.rest]) 3 (0,0))<|aal (eE 0 1024 (ns:=[S.drag,S.rest]) (q:=n11+0) (aw 0) (aaH rfl))<|OU 2<|aaq (eK 0 1024 [S.drag,S.rest]) 46 (λ H_=>?_) λ H_=>?_
      ·refine ae 3 [.o 6] λ n13=>aao 0 (.rows 1 1 (bF [S.rounds]) 3 (0,0))<|aal (eE 1 4 (ns:=[S.rounds]) (q:=n13+0) (aw 0) (aaH rfl))<|OU 2<|aaq (eK 1 4 [S.rounds]) 52 (λ Vu=>?_) λ Vu=>?_
       ·refine ae 3 [.o 7] λ n15=>aao 0 (.rows 1 1 (bF [S.fuel]) 3 (0,0))<|aal (eE 0 1000 (ns:=[S.fuel]) (q:=n15+0) (aw 0) (aaH rfl))<|ae 4 [] λ _=>QW (.bool (decide (eK 0 1000 [S.fuel]))) _ ⟨by simp[ke, *],rfl⟩
       ·refine ae 8 [] λ _=>QW (.bool false) _ ⟨by simp[ke, *],rfl⟩
      ·refine ae 14 [] λ _=>QW (.bool false) _ ⟨by simp[ke, *],rfl⟩
     ·refine ae 22 [] λ _=>QW (.bool false) _ ⟨by simp[ke, *],rfl⟩
    ·refine ae 28 [] λ _=>QW (.bool false) _ ⟨by simp[ke, *],rfl⟩
   ·refine ae 38 [] λ _=>QW (.bool false) _ ⟨by simp[ke, *],rfl⟩
  ·refine ae 44 [] λ _=>QW (.bool false) _ ⟨by simp[ke, *],rfl⟩
 ·refine ae 53 [] λ _=>QW (.bool false) _ ⟨by simp[ke, *],rfl⟩
def sF(n:Nat)(d:Dr):Prop:=eK 0 ((n:Int)-1) [d.a,d.b]/\¬ d.a=d.b
instance (n:Nat) (d:Dr):Decidable (sF n d):=inferInstanceAs (Decidable (_/\_))
def nA(S:Setup)(rs:List Bx)(ds:List Dr):Prop:=((S.rn:Int)<=8/\(S.dn:Int)<=16)/\(∀k,k<S.rn->gM (rs.getD k ye.dflt))/\∀k,k<S.dn->sF S.rn (ds.getD k nT.dflt)
instance (S:Setup) (rs:List Bx) (ds:List Dr):Decidable (nA S rs ds):=inferInstanceAs (Decidable (_/\_/\_))
theorem Jm(hM:MapIn F S rs ds):aen 73 #[(Setup.v S)] F (.bool (decide (nA S rs ds))):=by
 refine QT Tryz.func73<|ae 14 [.o 0] λ n1=>aaq ((S.rn:Int)>8) 11 (λ h2=>?_) λ h2=>?_
 ·refine ae 13 [] λ _=>QW (.bool false) _ ⟨by rw[abh (show ¬ nA S rs ds from λ h_=>by have:=h_.1;omega)],rfl⟩
 ·refine SO 7 [.o 0]<|aaq ((S.dn:Int)>16) 16 (λ h3=>?_) λ h3=>?_
  ·refine ae 6 [] λ _=>QW (.bool false) _ ⟨by rw[abh (show ¬ nA S rs ds from λ h_=>by have:=h_.1;omega)],rfl⟩
  ·refine SO 13 [.o 0]<|aat (σ:=Nat) (λ k=>⟨[(1,vP (n1+0) 0),(18,.slice S.rA S.rn S.rc),(19,vI (S.rn:Int)),(20,vI (k:Int))],[((n1+0),.lit (Setup.l S) 34 (0,0))],[],k<=S.rn/\∀t,t<k->gM (rs.getD t ye.dflt),S.rn-k⟩) 0 [0] [] (⟨aaJ _,λ t ht=>absurd ht (pt _)⟩) ?_;rintro k ⟨hkl,Z9⟩ W9;refine OU 6<|aaq ((k:Int)<(S.rn:Int)) 21 (λ h6=>?_) λ h6=>?_
   ·refine ae 7 [] λ _=>?_;obtain⟨qx7,U6,Nx7,fx7,akG,abx,acH,aiF,afP⟩:=hM.rooms.at (k:=k) (by omega);refine aM 18 (congrArg (λ v_=>(.slice v_ S.rn S.rc:Value)) abx)<|RN.ro (λ _=>(mc acH mn))<|ah 2 [.ix k,.rorow 0 (U6+k) 0,.rorow 0 (U6+k) 1,.rorow 0 (U6+k) 2,.rorow 0 (U6+k) 3] [((U6*4+k*4)+3)=(U6+k)*4+3/\(U6+k)<Nx7,((U6*4+k*4)+2)=(U6+k)*4+2/\(U6+k)<Nx7,((U6*4+k*4)+1)=(U6+k)*4+1/\(U6+k)<Nx7,(U6*4+k*4)=(U6+k)*4+0/\(U6+k)<Nx7,(k:Int)=((k:Nat):Int)/\k<S.rn] λ _=>aM 23 (congrArg (λ v_=>(.agg #[vI v_.x0,vI v_.y0,vI v_.x1,vI v_.y1]:Value)) afP)<|ae 7 (ow 0 8) λ n8=>aal (sE (rs.getD k ye.dflt))<|OU 3<|aar (gM (rs.getD k ye.dflt)) 26 (λ h9=>?_) λ h9=>?_
    ·refine ah 8 [.nw] [aI ((k:Int)+1)] λ _=>aM 18 (congrArg (λ v_=>(.slice v_ S.rn S.rc:Value)) abx.symm)<|W9 (k+1) [1] [] ?_
     try dsimp only
     refine⟨⟨by omega,λ t ht=>?_⟩,by omega⟩;rcases aaV t k with h_|h_
     ·exact Z9 t h_
     ·obtain rfl:t=k:=by omega
      exact h9
    ·refine ae 6 [] λ _=>QW (.bool false) _ ⟨by rw[abh (show ¬ nA S rs ds from λ h_=>h9 (h_.2.1 k (by omega)))],rfl⟩
   ·refine SO 16 [.o 0]<|aat (σ:=Nat) (λ j=>⟨[(1,vP (n1+0) 0),(29,.slice S.dA S.dn S.dc),(30,vI (S.dn:Int)),(31,vI (j:Int))],[((n1+0),.lit (Setup.l S) 34 (0,0))],[],j<=S.dn/\∀t,t<j->sF S.rn (ds.getD t nT.dflt),S.dn-j⟩) 0 [0] [] (⟨aaJ _,λ t ht=>absurd ht (pt _)⟩) ?_;rintro j ⟨Xa,hd1⟩ WN;refine OU 6<|aaq ((j:Int)<(S.dn:Int)) 32 (λ H_=>?_) λ H_=>?_
    ·refine ae 7 [] λ _=>?_;obtain⟨an0,Xh,agH,arw,amK,ab6,afl,al1,afQ⟩:=hM.doors.at (k:=j) (by omega);refine aM 29 (congrArg (λ v_=>(.slice v_ S.dn S.dc:Value)) ab6)<|RN.ro (λ _=>(mc afl mn))<|ah 2 [.ix j,.rorow 0 (Xh+j) 0,.rorow 0 (Xh+j) 1] [((Xh*2+j*2)+1)=(Xh+j)*2+1/\(Xh+j)<agH,(Xh*2+j*2)=(Xh+j)*2+0/\(Xh+j)<agH,(j:Int)=((j:Nat):Int)/\j<S.dn] λ _=>aM 34 (congrArg (λ v_=>(.agg #[vI v_.a,vI v_.b]:Value)) afQ)<|ah 15 [.o 0,.o 0,.o 1,.nw,.o 0,.o 0] [aI ((S.rn:Int)-1)] λ n14=>aao 0 (.rows 1 2 (bF [(ds.getD j nT.dflt).a,(ds.getD j nT.dflt).b]) 3 (0,0))<|aal (eE 0 ((S.rn:Int)-1) (ns:=[(ds.getD j nT.dflt).a,(ds.getD j nT.dflt).b]) (q:=n14+1) (aw 0) (aaH rfl))<|OU 2<|aar (eK 0 ((S.rn:Int)-1) [(ds.getD j nT.dflt).a,(ds.getD j nT.dflt).b]) 46 (λ Wg=>?_) λ Wg=>?_
     ·refine SO 8 [.o 1,.o 1]<|aaq ((ds.getD j nT.dflt).a=(ds.getD j nT.dflt).b) 52 (λ U4=>?_) λ U4=>?_
      ·refine ae 6 [] λ _=>QW (.bool false) _ ⟨by rw[abh (show ¬ nA S rs ds from λ h_=>(h_.2.2 j (by omega)).2 U4)],rfl⟩
      ·refine ah 8 [.nw] [aI ((j:Int)+1)] λ _=>aM 29 (congrArg (λ v_=>(.slice v_ S.dn S.dc:Value)) ab6.symm)<|WN (j+1) [2] [] ?_
       try dsimp only
       refine⟨⟨by omega,λ t ht=>?_⟩,by omega⟩;rcases aaV t j with h_|h_
       ·exact hd1 t h_
       ·obtain rfl:t=j:=by omega
        exact⟨Wg,U4⟩
     ·refine ae 14 [] λ _=>QW (.bool false) _ ⟨by rw[abh (show ¬ nA S rs ds from λ h_=>Wg (h_.2.2 j (by omega)).1)],rfl⟩
    ·refine ae 11 [] λ _=>QW (.bool true) _ ⟨by rw[abk (show nA S rs ds from ⟨⟨by omega,by omega⟩,λ t ht=>Z9 t (by omega),λ t ht=>hd1 t (by omega)⟩)],rfl⟩
def uQ(v w p:V2):Int:=aR (aR (aR (w.x-v.x)*aR (p.y-v.y))-aR (aR (w.y-v.y)*aR (p.x-v.x)))
def wE(n:Nat):List (Int×Int):=(List.range n).map λ i:Nat=>((i:Int),((i:Int)+1)%(n:Int))
theorem sG(n:Nat):(wE n).length=n:=by simp[wE]
theorem yK(h:k<n):(wE n)[k]?=some ((k:Int),((k:Int)+1)%(n:Int)):=by simp[wE,h]
theorem yL{x:Int×Int}(h:(wE n)[k]?=some x):k<n/\x=((k:Int),((k:Int)+1)%(n:Int)):=by
 have hk:k<n:=by rw[<- sG n];exact(bt.1 h).1
 rw[yK hk] at h;exact⟨hk,(abL h).symm⟩
abbrev Ox(x:Int×Int):Array Value:=#[vI x.1,vI x.2]
def yM(n k:Nat):Int:=((k:Int)+1)%(n:Int)
abbrev vat(l:List V2)(k:Nat):V2:=l.getD k ⟨0,0⟩
def yN(f:Nat->V2)(n i:Nat):Prop:=¬ uQ (f i) (f (yM n i).toNat) ⟨0,0⟩<=0/\∀k,k<n->¬ (k:Int)=(i:Int)->¬ (k:Int)=yM n i->¬ uQ (f i) (f (yM n i).toNat) (f k)<=0
instance (f:Nat->V2) (n i:Nat):Decidable (yN f n i):=inferInstanceAs (Decidable (_/\_))
def qz(f:Nat->V2)(n:Nat):Prop:=∀i,i<n->yN f n i
instance (f:Nat->V2) (n:Nat):Decidable (qz f n):=inferInstanceAs (Decidable (∀i,i<n->_))
theorem MK(h:k<n):0<=yM n k/\yM n k<n:=⟨acy _ (by omega),aca _ (by omega)⟩
theorem yO{f g:Nat->V2}(h:∀k,k<n->f k=g k)(hf:qz f n):qz g n:=λ i hi=>by
 have hb:=MK hi;have h1:=hf i hi;unfold yN at h1 ⊢;rw[h i hi,h (yM n i).toNat (by omega)] at h1;refine⟨h1.1,λ k hk a b=>?_⟩;have:=h1.2 k hk a b;rwa [h k hk] at this
theorem uR(v w p:V2){qw qv:Nat}(hqw:(qw,.lit [vI w.x,vI w.y] 32 (0,0))∈F)(hqv:(qv,.lit [vI v.x,vI v.y] 32 (0,0))∈F):aen 218 #[.agg #[vI p.x,vI p.y],vP qw 0,vP qv 0] F (vI (uQ v w p)):=by
 refine rI Tryz.func218 (mc hqw (mc hqv mn)) [] []<|ae 34 [.ro 0,.ro 1,.o 0,.ro 1,.ro 0,.ro 1,.o 0,.ro 1] λ n1=>QW _ _ ⟨rfl,rfl⟩
theorem Jn(v w:V2):aeo 150 #[.agg #[vI v.x,vI v.y],.agg #[vI w.x,vI w.y]] (ap [] []) F (λ u H'=>∃n:Nat,H'=ap [((n+1),.lit [vI w.x,vI w.y] 32 (0,0)),((n+0),.lit [vI v.x,vI v.y] 32 (0,0))] []/\u=.func (.func 218) #[] #[vP (n+1) 0,vP (n+0) 0]):=by
 refine QT Tryz.func150<|ae 13 [] λ n1=>QV [] [0,1] [] (.func (.func 218) #[] #[vP (n1+1) 0,vP (n1+0) 0]) (ap [((n1+1),.lit [vI w.x,vI w.y] 32 (0,0)),((n1+0),.lit [vI v.x,vI v.y] 32 (0,0))] []) ⟨_,rfl,rfl⟩
theorem FF(n:Nat):aeo 149 #[vI (n:Int)] (ap [] []) F (λ u H'=>∃q:Nat,H'=ap [(q,.lit [vI (n:Int)] 3 (0,0))] []/\u=.func (.func 217) #[] #[vP q 0]):=by
 refine QT Tryz.func149<|ae 12 [] λ n1=>QV [] [0] [] (.func (.func 217) #[] #[vP (n1+0) 0]) (ap [((n1+0),.lit [vI (n:Int)] 3 (0,0))] []) ⟨_,rfl,rfl⟩
theorem BP (lp:Nat)(X:HL){J:Nat->HL->Prop}(Jx:HL->Prop){T0:HL}(hn:n<=1000000)(hq:(q,.lit [vI (n:Int)] 3 (0,0))∈F)(hY:∀i x H Y,(wE n)[i]?=some x->J i H->YL Tryz.prog lp (Ox x) H (Y++(X++F)) (λ b H'=>(b=true/\J (i+1) H')\/(b=false/\Jx H')))(XM:J 0 T0):aeo 217 #[.func (.yield lp) #[] #[],vP q 0] (ap [] [T0]) (X++F) (λ _ H'=>J (wE n).length H'\/Jx H'):=by
 refine QS Tryz.func217 (mc (aaB X hq) mn)<|SO 7 [.ro 0]<|aat (σ:=Nat×HL) (λ ⟨k,T_⟩=>⟨[(0,.func (.yield lp) #[] #[]),(1,vP q 0),(4,vI (n:Int)),(5,vI (k:Int))],[],[T_],k<=n/\J k T_,n-k⟩) (0,T0) [] [0] (⟨aaJ _,XM⟩) ?_;rintro⟨k,T_⟩ ⟨YJ,VC⟩ Vx;refine OU 6<|aaq ((k:Int)<(n:Int)) 6 (λ h3=>?_) λ h3=>?_
 ·refine ah 19 [.nw,.ro 0,.nw] [0<=(k:Int)+1/\(0:Int)<(n:Int)/\(k:Int)+1<=9223372036854775807,aI ((k:Int)+1)] λ _=>aax 0 (hY k _ _ _ (yK (by omega)) VC) ?_;rintro b_ T4 (⟨rfl,hJ5⟩|⟨rfl,hJ5⟩)
  ·refine ah 11 [.gen,.nw] [aI ((k:Int)+1)] λ _=>Vx (k+1,T4) [] [0] ?_
   try dsimp only
   exact⟨⟨by omega,hJ5⟩,by omega⟩
  ·refine OU 4<|QV [] [] [0] (.tuple #[]) (ap [] [T4]) ?_;rw[br];exact .inr hJ5
 ·refine OU 5<|QV [] [] [0] (.tuple #[]) (ap [] [T_]) ?_;rw[br];obtain rfl:k=n:=by omega
  exact .inl (by rw[sG];exact VC)
theorem Jo(hn:n<=1000000)(hq:(q,.lit [vI (n:Int)] 3 (0,0))∈F):It Tryz.prog 217 #[vP q 0] F Ox (wE n):=by
 intro X l J Jx H0 hY h0;have key:=BP l X Jx hn hq hY h0;rw[br] at key;exact key
theorem Jp(hb:(b,.rows 2 N (jY full) 32 fz)∈F)(ho:o+n<=N)(hnn:n<=1000000):aen 106 #[vS b (o*2) n cap] F (.bool (decide (qz (λ k_=>full.getD (o+k_) ⟨0,0⟩) n))):=by
 refine Sp.runM Tryz.func106 rfl (mc hb mn) (A:=[]) (Ts:=[]) rfl λ w0=>ae 9 [] λ n1=>SO 2 [.o 1]<|SP (FF n) ?_;rintro _ q2 rfl;refine OU 3<|RN.range (σ:=Nat) (τ:=Nat) (encs:=λ (x_:Int×Int)=>#[vI x_.1,vI x_.2]) (xs:=(wE n)) (enters_of Tryz.func217 (by kernel_rfl) rfl) (λ m_=>([((n1+1),.lit [.bool false] 4 (0,0)),((n1+0),.lit [vS b (o*2) n cap] 68 (0,0))],[])) (λ i_ m_=>m_=i_/\∀t,t<m_->yN (λ k_=>full.getD (o+k_) ⟨0,0⟩) n t) (λ c_ m_=>c_=Code.ret/\¬ qz (λ k_=>full.getD (o+k_) ⟨0,0⟩) n) (λ m_=>⟨[(1,vP (n1+0) 0),(2,vP (n1+1) 0),(3,vI (m_:Int)),(4,vI (((m_:Int)+1)%(n:Int)))],[((n1+1),.lit [.bool false] 4 (0,0)),((n1+0),.lit [vS b (o*2) n cap] 68 (0,0))],[],True,0⟩) (λ i_ x_ m_=>m_=i_/\∀t,t<m_->yN (λ k_=>full.getD (o+k_) ⟨0,0⟩) n t) 0 (⟨rfl,λ t ht=>absurd ht (pt _)⟩) [1,2] [] (Jo (q:=q2) hnn (aw 0)) ?_ ?_ ?_ ?_
 ·rintro l_ i_ x_ m_ Y3 w4 hx5 XN Yz;obtain⟨rfl,dO⟩:=XN;obtain⟨Y1,rfl⟩:=yL hx5;refine ae 8 [] λ _=>Yz m_ [0,1] [] ?_
  try dsimp only
  exact⟨rfl,dO⟩
 ·rintro l_ i_ x_ m_ Y7 w8 hx9 XN;obtain⟨rfl,dO⟩:=XN;obtain⟨Y1,rfl⟩:=yL hx9;have hm1:=acy ((m_:Int)+1) (show (n:Int)≠0 by omega);have hm2:=aca ((m_:Int)+1) (show (0:Int)<n by omega);refine OU 2<|aap [] []<|aA [] [0,1,4,5,2,6,3,7] [.o 1,.o 1,.ix m_,.ix (((((m_:Int)+1)%(n:Int))).toNat),.rorow 1 (o+m_) 0,.rorow 1 (o+m_) 1,.rorow 1 (o+(((((m_:Int)+1)%(n:Int))).toNat)) 0,.rorow 1 (o+(((((m_:Int)+1)%(n:Int))).toNat)) 1] [((o*2+(((((m_:Int)+1)%(n:Int))).toNat)*2)+1)=(o+(((((m_:Int)+1)%(n:Int))).toNat))*2+1/\(o+(((((m_:Int)+1)%(n:Int))).toNat))<N,(o*2+(((((m_:Int)+1)%(n:Int))).toNat)*2)=(o+(((((m_:Int)+1)%(n:Int))).toNat))*2+0/\(o+(((((m_:Int)+1)%(n:Int))).toNat))<N,((o*2+m_*2)+1)=(o+m_)*2+1/\(o+m_)<N,(o*2+m_*2)=(o+m_)*2+0/\(o+m_)<N,(((m_:Int)+1)%(n:Int))=((((((m_:Int)+1)%(n:Int))).toNat:Nat):Int)/\((((m_:Int)+1)%(n:Int))).toNat<n,(m_:Int)=((m_:Nat):Int)/\m_<n]<|aag 8 (Q1 [] (Jn (full.getD (o+m_) ⟨0,0⟩) (full.getD (o+(((((m_:Int)+1)%(n:Int))).toNat)) ⟨0,0⟩)) ?_);rintro _ m10 rfl;refine aem [9]<|Q2 6<|aal (uR (full.getD (o+m_) ⟨0,0⟩) (full.getD (o+(((((m_:Int)+1)%(n:Int))).toNat)) ⟨0,0⟩) (⟨0,0⟩:V2) (qw:=m10+1) (qv:=m10+0) (aw 0) (aw 1))<|OU 3<|aaq (uQ (full.getD (o+m_) ⟨0,0⟩) (full.getD (o+(((((m_:Int)+1)%(n:Int))).toNat)) ⟨0,0⟩) (⟨0,0⟩:V2)<=0) 25 (λ IN=>?_) λ IN=>?_
  ·refine SO 6 [.o 2]<|RN.rr m_ [2,3] [] ?_
   try dsimp only
   exact⟨rfl,λ Yq=>(Yq m_ Y1).1 IN⟩
  ·refine SO 11 [.o 3]<|aat (σ:=Nat) (λ k=>⟨[(2,vP (n1+1) 0),(3,vI (m_:Int)),(4,vI (((m_:Int)+1)%(n:Int))),(5,.func (.func 218) #[] #[vP (m10+1) 0,vP (m10+0) 0]),(26,vS b (o*2) n cap),(27,vI (n:Int)),(28,vI (k:Int))],[((m10+1),.lit [vI ((full.getD (o+(((((m_:Int)+1)%(n:Int))).toNat)) ⟨0,0⟩).x),vI ((full.getD (o+(((((m_:Int)+1)%(n:Int))).toNat)) ⟨0,0⟩).y)] 32 (0,0)),((m10+0),.lit [vI ((full.getD (o+m_) ⟨0,0⟩).x),vI ((full.getD (o+m_) ⟨0,0⟩).y)] 32 (0,0)),((n1+1),.lit [.bool false] 4 (0,0)),((n1+0),.lit [vS b (o*2) n cap] 68 (0,0))],[],k<=n/\∀t,t<k->¬ (t:Int)=(m_:Int)->¬ (t:Int)=yM n m_->¬ uQ (full.getD (o+m_) ⟨0,0⟩) (full.getD (o+(yM n m_).toNat) ⟨0,0⟩) (full.getD (o+t) ⟨0,0⟩)<=0,n-k⟩) 0 [0,1,2,3] [] (⟨aaJ _,λ t ht=>absurd ht (pt _)⟩) ?_;rintro k ⟨hkl,VI⟩ ack;refine OU 6<|aaq ((k:Int)<(n:Int)) 29 (λ Vu=>?_) λ Vu=>?_
   ·refine ah 21 [.ix k,.rorow 1 (o+k) 0,.rorow 1 (o+k) 1,.o 0,.o 0] [((o*2+k*2)+1)=(o+k)*2+1/\(o+k)<N,(o*2+k*2)=(o+k)*2+0/\(o+k)<N,(k:Int)=((k:Nat):Int)/\k<n] λ n15=>aar ((k:Int)=(m_:Int)) 36 (λ U4=>?_) λ U4=>?_
    ·refine ah 20 [.nw] [aI ((k:Int)+1)] λ _=>ack (k+1) [1,2,3,4] [] ?_
     try dsimp only
     refine⟨⟨by omega,λ t ht e1_ YT=>?_⟩,by omega⟩;rcases aaV t k with h_|h_
     ·exact VI t h_ e1_ YT
     ·obtain rfl:t=k:=by omega
      exact absurd U4 e1_
    ·refine OU 5<|aar ((k:Int)=(((m_:Int)+1)%(n:Int))) 41 (λ YS=>?_) λ YS=>?_
     ·refine ah 15 [.nw] [aI ((k:Int)+1)] λ _=>ack (k+1) [1,2,3,4] [] ?_
      try dsimp only
      refine⟨⟨by omega,λ t ht e1_ YT=>?_⟩,by omega⟩;rcases aaV t k with h_|h_
      ·exact VI t h_ e1_ YT
      ·obtain rfl:t=k:=by omega
       exact absurd YS YT
     ·refine SO 2 (aab 2)<|aal (uR (full.getD (o+m_) ⟨0,0⟩) (full.getD (o+(((((m_:Int)+1)%(n:Int))).toNat)) ⟨0,0⟩) (full.getD (o+k) ⟨0,0⟩) (qw:=m10+1) (qv:=m10+0) (aw 1) (aw 2))<|OU 4<|aaq (uQ (full.getD (o+m_) ⟨0,0⟩) (full.getD (o+(((((m_:Int)+1)%(n:Int))).toNat)) ⟨0,0⟩) (full.getD (o+k) ⟨0,0⟩)<=0) 46 (λ Xf=>?_) λ Xf=>?_
      ·refine SO 6 [.o 3]<|RN.rr m_ [3,4] [] ?_
       try dsimp only
       refine⟨rfl,λ Yq=>?_⟩;exact(Yq m_ Y1).2 k (by omega) U4 YS Xf
      ·refine ah 8 [.nw] [aI ((k:Int)+1)] λ _=>ack (k+1) [1,2,3,4] [] ?_
       try dsimp only
       refine⟨⟨by omega,λ t ht e1_ YT=>?_⟩,by omega⟩;rcases aaV t k with h_|h_
       ·exact VI t h_ e1_ YT
       ·obtain rfl:t=k:=by omega
        exact Xf
   ·refine OU 6<|RN.rn (m_+1) [2,3] [] ?_
    try dsimp only
    refine⟨rfl,λ t ht=>?_⟩;rcases aaV t m_ with h_|h_
    ·exact dO t h_
    ·obtain rfl:t=m_:=by omega
     exact⟨IN,λ s_ U7=>VI s_ (by omega)⟩
 ·rintro d19 m_ XN;obtain⟨rfl,dO⟩:=XN;refine ae 7 [.o 1] λ _=>RN.retM [d19] [0] [.o 0] [] [] (v:=.bool true) ⟨by rw[abk (show qz (λ k_=>full.getD (o+k_) ⟨0,0⟩) n from λ t ht=>dO t (by rw[sG];exact ht))],rfl⟩
 ·rintro d20 c_ m_ ⟨rfl,Wj⟩;exact RN.retM [d20] [0] [.o 0] [] [] (v:=.bool false) ⟨by rw[abh Wj],rfl⟩
def tU(n:Int):Prop:=-32768<=n/\n<=32768
instance (n:Int):Decidable (tU n):=inferInstanceAs (Decidable (_/\_))
def nU(r:Int):Prop:=1<=r/\r<=32768
instance (r:Int):Decidable (nU r):=inferInstanceAs (Decidable (_/\_))
def iH(r:Int)(f:Nat->V2)(n:Nat):Prop:=(r=0/\3<=n/\n<=6)/\(∀k,k<n->tU (f k).x/\tU (f k).y)/\qz f n
instance (r:Int) (f:Nat->V2) (n:Nat):Decidable (iH r f n):=inferInstanceAs (Decidable (_/\_/\_))
theorem qA{r:Int}{f g:Nat->V2}(h:∀k,k<n->f k=g k)(hf:iH r f n):iH r g n :=
 ⟨hf.1,λ k hk=>by rw[<- h k hk];exact hf.2.1 k hk,yO h hf.2.2⟩
def kf(s:Shp):Prop:=if s.poly.length=0 then nU s.r else iH s.r (vat s.poly) s.poly.length
instance (s:Shp):Decidable (kf s):=inferInstanceAs (Decidable (if s.poly.length=0 then nU s.r else iH s.r (vat s.poly) s.poly.length))
theorem pN{r:Int}{cap:Nat}:kf ⟨r,[],A,cap⟩↔nU r:=by
 show (if (0:Nat)=0 then nU r else _)↔_;rw[if_pos rfl]
def FG(s:Shp):Int:=if kf s then 0 else 10
theorem yP(n:Int):aen 105 #[vI n] F (.bool (decide (tU n))):=by
 refine QT Tryz.func105<|OU 10<|aaq ((-32768)<=n) 5 (λ h1=>?_) λ h1=>?_
 ·refine ae 6 [] λ _=>QW (.bool (decide (n<=32768))) _ ⟨by simp[tU, *],rfl⟩
 ·refine ae 6 [] λ _=>QW (.bool false) _ ⟨by simp[tU, *],rfl⟩
theorem BQ(r:Int)(A:Option Addr)(cap:Nat)(F:HL):aen 70 #[.agg #[vI r,.slice A 0 cap]] F (vI (FG ⟨r,[],A,cap⟩)):=by
 refine QT Tryz.func70<|ae 10 (aab 2) λ n1=>aal (pz r A 0 cap)<|SO 10 [.o 0]<|aaq (r<1) 10 (λ h2=>?_) λ h2=>?_
 ·refine ae 12 [] λ _=>QW (vI 10) _ ⟨by rw[FG,if_neg (λ h_=>by have UJ:=pN.1 h_;unfold nU at UJ;omega)],rfl⟩
 ·refine SO 6 [.o 0]<|aaq (r>32768) 14 (λ h3=>?_) λ h3=>?_
  ·refine ae 6 [] λ _=>QW (vI 10) _ ⟨by rw[FG,if_neg (λ h_=>by have UJ:=pN.1 h_;unfold nU at UJ;omega)],rfl⟩
  ·refine ae 8 [] λ _=>QW (vI 0) _ ⟨by rw[FG,if_pos (pN.2 ⟨by omega,by omega⟩)],rfl⟩
theorem Jq(r:Int) (o:Nat) (cap:Nat)(hb:(b,.rows 2 N (jY full) 32 fz)∈F)(ho:o+n<=N)(h1:1<=n)(hnn:n<=1000000):aen 70 #[.agg #[vI r,vS b (o*2) n cap]] F (vI (if iH r (λ k_=>full.getD (o+k_) ⟨0,0⟩) n then 0 else 10)):=by
 refine QU Tryz.func70 hb<|ae 10 (aab 2) λ n1=>aal (pz r (some ⟨b,o*2,none⟩) n cap)<|OU 2<|aas 6 (abh (show ¬ ((n:Int)=0) by omega))<|SO 10 [.o 0]<|aar (r=0) 18 (λ h2=>?_) λ h2=>?_
 ·refine SO 6 [.o 0]<|aaq ((n:Int)<3) 24 (λ h3=>?_) λ h3=>?_
  ·refine ae 13 [] λ _=>QW (vI 10) _ ⟨by rw[if_neg (show ¬ iH r (λ k_=>full.getD (o+k_) ⟨0,0⟩) n from λ h_=>by have:=h_.1;omega)],rfl⟩
  ·refine SO 7 [.o 0]<|aaq ((n:Int)>6) 29 (λ h4=>?_) λ h4=>?_
   ·refine ae 6 [] λ _=>QW (vI 10) _ ⟨by rw[if_neg (show ¬ iH r (λ k_=>full.getD (o+k_) ⟨0,0⟩) n from λ h_=>by have:=h_.1;omega)],rfl⟩
   ·refine SO 13 [.o 0]<|aat (σ:=Nat) (λ k=>⟨[(1,vP (n1+0) 0),(31,vS b (o*2) n cap),(32,vI (n:Int)),(33,vI (k:Int))],[((n1+0),.lit [vI r,vS b (o*2) n cap] 70 (0,0))],[],k<=n/\∀t,t<k->tU (full.getD (o+t) (⟨0,0⟩:V2)).x/\tU (full.getD (o+t) (⟨0,0⟩:V2)).y,n-k⟩) 0 [0] [] (⟨aaJ _,λ t ht=>absurd ht (pt _)⟩) ?_;rintro k ⟨hkl,VI⟩ Yz;refine OU 6<|aaq ((k:Int)<(n:Int)) 34 (λ h7=>?_) λ h7=>?_
    ·refine ah 17 [.ix k,.rorow 0 (o+k) 0,.rorow 0 (o+k) 1,.o 0,.o 0,.o 0] [((o*2+k*2)+1)=(o+k)*2+1/\(o+k)<N,(o*2+k*2)=(o+k)*2+0/\(o+k)<N,(k:Int)=((k:Nat):Int)/\k<n] λ n8=>aal (yP ((full.getD (o+k) ⟨0,0⟩).x))<|OU 2<|aar (tU ((full.getD (o+k) ⟨0,0⟩).x)) 41 (λ h9=>?_) λ h9=>?_
     ·refine SO 2 [.o 0]<|aal (yP ((full.getD (o+k) ⟨0,0⟩).y))<|OU 4<|aar (tU ((full.getD (o+k) ⟨0,0⟩).y)) 46 (λ No=>?_) λ No=>?_
      ·refine ah 8 [.nw] [aI ((k:Int)+1)] λ _=>Yz (k+1) [1] [] ?_
       try dsimp only
       refine⟨⟨by omega,λ t ht=>?_⟩,by omega⟩;rcases aaV t k with h_|h_
       ·exact VI t h_
       ·obtain rfl:t=k:=by omega
        exact⟨h9,No⟩
      ·refine ae 6 [] λ _=>QW (vI 10) _ ⟨by rw[if_neg (show ¬ iH r (λ k_=>full.getD (o+k_) ⟨0,0⟩) n from λ h_=>No (h_.2.1 k (by omega)).2)],rfl⟩
     ·refine ae 13 [] λ _=>QW (vI 10) _ ⟨by rw[if_neg (show ¬ iH r (λ k_=>full.getD (o+k_) ⟨0,0⟩) n from λ h_=>h9 (h_.2.1 k (by omega)).1)],rfl⟩
    ·refine SO 11 [.o 0]<|aal (Jp o cap (aC hb) ho hnn)<|OU 3<|aar (qz (λ k_=>full.getD (o+k_) ⟨0,0⟩) n) 51 (λ IN=>?_) λ IN=>?_
     ·refine ae 8 [] λ _=>QW (vI 0) _ ⟨by rw[if_pos (show iH r (λ k_=>full.getD (o+k_) ⟨0,0⟩) n from ⟨⟨by omega,by omega,by omega⟩,λ t ht=>VI t (by omega),IN⟩)],rfl⟩
     ·refine ae 6 [] λ _=>QW (vI 10) _ ⟨by rw[if_neg (show ¬ iH r (λ k_=>full.getD (o+k_) ⟨0,0⟩) n from λ h_=>IN h_.2.2)],rfl⟩
 ·refine ae 19 [] λ _=>QW (vI 10) _ ⟨by rw[if_neg (show ¬ iH r (λ k_=>full.getD (o+k_) ⟨0,0⟩) n from λ h_=>by have:=h_.1;omega)],rfl⟩
theorem ML(s:Shp)(h:RowL jg 32 F s.A s.poly.length s.poly)(hn:s.poly.length<=1000000):aen 70 #[LT s] F (vI (FG s)):=by
 obtain⟨r,l,A,cap⟩:=s;simp only at h hn;rcases abI l.length with h0|h0
 ·obtain rfl:l=[]:=aaU h0;exact BQ r A cap F
 ·generalize hm:l.length=m at h h0 hn;cases h with
  |zero=>omega
  |rows q o N full fz n xs hq ho hn' hx=>
   have:=Jq r o cap hq ho h0 hn;have e:FG ⟨r,l,some ⟨q,o*2,none⟩,cap⟩=if iH r (λ k_=>full.getD (o+k_) ⟨0,0⟩) m then 0 else 10:=by
    have e1:kf ⟨r,l,some ⟨q,o*2,none⟩,cap⟩↔iH r (λ k_=>full.getD (o+k_) ⟨0,0⟩) m:=by
     unfold kf;simp only;rw[if_neg (by omega),hm];exact⟨qA λ k hk=>(hx k hk).symm,qA λ k hk=>hx k hk⟩
    unfold FG
    by_cases hc:iH r (λ k_=>full.getD (o+k_) ⟨0,0⟩) m
    ·rw[if_pos hc,if_pos (e1.2 hc)]
    ·rw[if_neg hc,if_neg λ h=>hc (e1.1 h)]
   show Sp _ _ #[.agg #[vI r,.slice (some ⟨q,o*2,none⟩) l.length cap]] _ _ (λ u H'=>u=vI (FG ⟨r,l,some ⟨q,o*2,none⟩,cap⟩)/\H'=[]);rw[e,hm];exact this
structure SetSh(F:HL)(S:Setup):Prop where
 nb:S.nb<=1000000
 blk:(S.bb,.rows 9 S.bR (jO S.bods) 75 (0,0))∈F
 room:S.bo+S.nb<=S.bR
 pol:∀k,k<S.nb->RowL jg 32 F (S.body k).sh.A (S.body k).sh.poly.length (S.body k).sh.poly/\(S.body k).sh.poly.length<=1000000
theorem SetSh.up{X:HL}(h:SetSh F S):SetSh (X++F) S:=⟨h.nb,aaB _ h.blk,h.room,λ k hk=>⟨(h.pol k hk).1.up,(h.pol k hk).2⟩⟩
theorem ShIn.rowL(h:ShIn F s):RowL jg 32 F s.A s.poly.length s.poly/\s.poly.length<=1000000:=by
 cases h with
 |circle r A cap=>exact⟨.zero _,aaJ _⟩
 |poly r l b cap h h3 h4 h5=>exact⟨RowL.whole (e:=jg) h h4,h5⟩
def yQ(S:Setup)(rs:List Bx)(ds:List Dr):Prop:=ke S/\gM S.box/\nA S rs ds
instance (S:Setup) (rs:List Bx) (ds:List Dr):Decidable (yQ S rs ds):=inferInstanceAs (Decidable (_/\_))
def gq(S:Setup)(rs:List Bx)(ds:List Dr):Int:=if ∀k,k<S.nb->kf (S.body k).sh then (if yQ S rs ds then (if ∀k,k<S.nb->fR (S.body k) S.box then 0 else 11) else 11) else 10
theorem PI(h:FG s=0):kf s:=by
 unfold FG at h;split at h
 ·assumption
 ·omega
theorem PJ(h:¬ FG s=0):¬ kf s:=λ hc=>h (by rw[FG,if_pos hc])
theorem Dd(hS:SetSh F S)(hM:MapIn F S rs ds):aen 46 #[(Setup.v S)] F (vI (gq S rs ds)):=by
 have hn:=hS.nb;have hr:=hS.room;refine QU Tryz.func46 hS.blk<|ae 16 [.o 0] λ n1=>aat (σ:=Nat) (λ k=>⟨[(1,vP (n1+0) 0),(8,vS S.bb (S.bo*9) S.nb S.bc),(9,vI (S.nb:Int)),(10,vI (k:Int))],[((n1+0),.lit (Setup.l S) 34 (0,0))],[],k<=S.nb/\∀t,t<k->kf (S.body t).sh,S.nb-k⟩) 0 [0] [] (⟨aaJ _,λ t ht=>absurd ht (pt _)⟩) ?_;rintro k ⟨hkl,Y0⟩ OF;refine OU 6<|aaq ((k:Int)<(S.nb:Int)) 11 (λ h4=>?_) λ h4=>?_
 ·refine ah 17 ([.ix k,.rorow 0 (S.bo+k) 0,.rorow 0 (S.bo+k) 1,.rorow 0 (S.bo+k) 2,.rorow 0 (S.bo+k) 3,.rorow 0 (S.bo+k) 4,.rorow 0 (S.bo+k) 5,.rorow 0 (S.bo+k) 6,.rorow 0 (S.bo+k) 7,.rorow 0 (S.bo+k) 8]++ow 0 11) [((S.bo*9+k*9)+8)=(S.bo+k)*9+8/\(S.bo+k)<S.bR,((S.bo*9+k*9)+7)=(S.bo+k)*9+7/\(S.bo+k)<S.bR,((S.bo*9+k*9)+6)=(S.bo+k)*9+6/\(S.bo+k)<S.bR,((S.bo*9+k*9)+5)=(S.bo+k)*9+5/\(S.bo+k)<S.bR,((S.bo*9+k*9)+4)=(S.bo+k)*9+4/\(S.bo+k)<S.bR,((S.bo*9+k*9)+3)=(S.bo+k)*9+3/\(S.bo+k)<S.bR,((S.bo*9+k*9)+2)=(S.bo+k)*9+2/\(S.bo+k)<S.bR,((S.bo*9+k*9)+1)=(S.bo+k)*9+1/\(S.bo+k)<S.bR,(S.bo*9+k*9)=(S.bo+k)*9+0/\(S.bo+k)<S.bR,(k:Int)=((k:Nat):Int)/\k<S.nb] λ n5=>aal (ML ((S.bods.getD (S.bo+k) dB).sh) (hS.pol k (by omega)).1.up (hS.pol k (by omega)).2)<|OU 3<|aar (FG ((S.bods.getD (S.bo+k) dB).sh)=0) 17 (λ h6=>?_) λ h6=>?_
  ·refine ah 8 [.nw] [aI ((k:Int)+1)] λ _=>OF (k+1) [1] [] ?_
   try dsimp only
   refine⟨⟨by omega,λ t ht=>?_⟩,by omega⟩;rcases aaV t k with h_|h_
   ·exact Y0 t h_
   ·obtain rfl:t=k:=by omega
    exact PI h6
  ·refine ae 6 [] λ _=>QW (vI 10) _ ⟨by rw[gq,if_neg (show ¬ ∀k,k<S.nb->kf (S.body k).sh from λ h_=>PJ h6 (h_ k (by omega)))],rfl⟩
 ·refine SO 10 (ow 0 16)<|aal (Jl S)<|OU 2<|aar (ke S) 22 (λ h7=>?_) λ h7=>?_
  ·refine SO 2 (aab 4)<|aal (sE S.box)<|OU 3<|aar (gM S.box) 28 (λ h8=>?_) λ h8=>?_
   ·refine SO 1 (ow 0 16)<|aal (Jm hM.up)<|OU 4<|aar (nA S rs ds) 32 (λ h9=>?_) λ h9=>?_
    ·refine SO 13 [.o 0]<|aat (σ:=Nat) (λ j=>⟨[(1,vP (n1+0) 0),(34,vS S.bb (S.bo*9) S.nb S.bc),(35,vI (S.nb:Int)),(36,vI (j:Int))],[((n1+0),.lit (Setup.l S) 34 (0,0))],[],j<=S.nb/\∀t,t<j->fR (S.body t) S.box,S.nb-j⟩) 0 [0] [] (⟨aaJ _,λ t ht=>absurd ht (pt _)⟩) ?_;rintro j ⟨Xa,hvb⟩ WN;refine OU 6<|aaq ((j:Int)<(S.nb:Int)) 37 (λ H_=>?_) λ H_=>?_
     ·refine ah 18 ([.ix j,.rorow 0 (S.bo+j) 0,.rorow 0 (S.bo+j) 1,.rorow 0 (S.bo+j) 2,.rorow 0 (S.bo+j) 3,.rorow 0 (S.bo+j) 4,.rorow 0 (S.bo+j) 5,.rorow 0 (S.bo+j) 6,.rorow 0 (S.bo+j) 7,.rorow 0 (S.bo+j) 8]++ow 0 18++(ow 1 4)) [((S.bo*9+j*9)+8)=(S.bo+j)*9+8/\(S.bo+j)<S.bR,((S.bo*9+j*9)+7)=(S.bo+j)*9+7/\(S.bo+j)<S.bR,((S.bo*9+j*9)+6)=(S.bo+j)*9+6/\(S.bo+j)<S.bR,((S.bo*9+j*9)+5)=(S.bo+j)*9+5/\(S.bo+j)<S.bR,((S.bo*9+j*9)+4)=(S.bo+j)*9+4/\(S.bo+j)<S.bR,((S.bo*9+j*9)+3)=(S.bo+j)*9+3/\(S.bo+j)<S.bR,((S.bo*9+j*9)+2)=(S.bo+j)*9+2/\(S.bo+j)<S.bR,((S.bo*9+j*9)+1)=(S.bo+j)*9+1/\(S.bo+j)<S.bR,(S.bo*9+j*9)=(S.bo+j)*9+0/\(S.bo+j)<S.bR,(j:Int)=((j:Nat):Int)/\j<S.nb] λ n13=>aal (FD (S.bods.getD (S.bo+j) dB) S.box)<|OU 3<|aar (fR (S.bods.getD (S.bo+j) dB) S.box) 44 (λ Vu=>?_) λ Vu=>?_
      ·refine ah 8 [.nw] [aI ((j:Int)+1)] λ _=>WN (j+1) [1] [] ?_
       try dsimp only
       refine⟨⟨by omega,λ t ht=>?_⟩,by omega⟩;rcases aaV t j with h_|h_
       ·exact hvb t h_
       ·obtain rfl:t=j:=by omega
        exact Vu
      ·refine ae 6 [] λ _=>QW (vI 11) _ ⟨by rw[gq,if_pos (show ∀k,k<S.nb->kf (S.body k).sh from λ t ht=>Y0 t (by omega)),if_pos (show yQ S rs ds from ⟨h7,h8,h9⟩),if_neg (show ¬ ∀k,k<S.nb->fR (S.body k) S.box from λ h_=>Vu (h_ j (by omega)))],rfl⟩
     ·refine ae 11 [] λ _=>QW (vI 0) _ ⟨by rw[gq,if_pos (show ∀k,k<S.nb->kf (S.body k).sh from λ t ht=>Y0 t (by omega)),if_pos (show yQ S rs ds from ⟨h7,h8,h9⟩),if_pos (show ∀k,k<S.nb->fR (S.body k) S.box from λ t ht=>hvb t (by omega))],rfl⟩
    ·refine ae 6 [] λ _=>QW (vI 11) _ ⟨by rw[gq,if_pos (show ∀k,k<S.nb->kf (S.body k).sh from λ t ht=>Y0 t (by omega)),if_neg (show ¬ yQ S rs ds from λ h_=>h9 h_.2.2)],rfl⟩
   ·refine ae 12 [] λ _=>QW (vI 11) _ ⟨by rw[gq,if_pos (show ∀k,k<S.nb->kf (S.body k).sh from λ t ht=>Y0 t (by omega)),if_neg (show ¬ yQ S rs ds from λ h_=>h8 h_.2.1)],rfl⟩
  ·refine ae 18 [] λ _=>QW (vI 11) _ ⟨by rw[gq,if_pos (show ∀k,k<S.nb->kf (S.body k).sh from λ t ht=>Y0 t (by omega)),if_neg (show ¬ yQ S rs ds from λ h_=>h7 h_.1)],rfl⟩
end
section
variable {A:Option Addr} {F T:HL} {M:MemS} {S:Setup} {bp cap gb i k mb n:Nat} {ds:List Dr} {rs:List Bx} {α:Type}
def l9(S:Setup):List Bod:=(List.range S.nb).map S.body
theorem kg(S:Setup):(l9 S).length=S.nb:=by simp[l9]
theorem mL(h:k<S.nb):(l9 S).getD k dB=S.body k:=by simp[l9,h]
theorem FH(hS:SetSh F S):RowL lE 75 F (some ⟨S.bb,S.bo*9,none⟩) S.nb (l9 S) :=
 .rows S.bb S.bo S.bR S.bods (0,0) S.nb (l9 S) hS.blk hS.room (kg S) (λ k hk=>(mL hk).symm)
theorem ClS.open{e:Enc α}{T:TypeId}{xs:List α}{c:Nat}{Hl:HL}(h:ClS e T xs A c Hl)(hx:0<xs.length):∃b,A=some ⟨b,0,none⟩/\Hl=[(b,.rows e.w c (ak e xs) T (0,0))]/\xs.length<=c:=by
 obtain⟨A0,h⟩:=h;rcases h with ⟨rfl,_⟩|⟨b,h1,h2,h3⟩
 ·simp at hx
 ·exact⟨b,h1,h2,h3⟩
structure SetCl(F:HL)(S:Setup):Prop extends SetN S where
 blk:(S.bb,.rows 9 S.bR (jO S.bods) 75 (0,0))∈F
 room:S.bo+S.nb<=S.bR
 shp:∀k,k<S.nb->(RowL jg 32 F (S.body k).sh.A (S.body k).sh.poly.length (S.body k).sh.poly/\(S.body k).sh.poly.length<=1000000)/\((S.body k).sh.poly=[]\/3<=(S.body k).sh.poly.length)
theorem SetIn.cl(h:SetIn F S):SetCl F S:=⟨h.toSetN,h.blk,h.room,λ k hk=>⟨(h.shp k hk).rowL,by
 have h1:=h.shp k hk;generalize (S.body k).sh=s at h1;cases h1 with
 |circle r A cap=>exact .inl rfl
 |poly r l b cap h h3 h4 h5=>exact .inr h3⟩⟩
theorem SetCl.up{X:HL}(h:SetCl F S):SetCl (X++F) S:=⟨h.toSetN,aaB _ h.blk,h.room,λ k hk=>⟨⟨(h.shp k hk).1.1.up,(h.shp k hk).1.2⟩,(h.shp k hk).2⟩⟩
theorem SetCl.toSh(h:SetCl F S):SetSh F S:=⟨h.nb,h.blk,h.room,λ k hk=>(h.shp k hk).1⟩
theorem FI{s:Shp}(h:s.poly=[]\/3<=s.poly.length)(hl:s.poly.length<=1000000){c:Nat}(hc:ClS jg 32 s.poly A c T):ShH ⟨s.r,s.poly,A,c⟩ T:=by
 intro F' hF;rcases h with h|h
 ·rw[h];exact .circle _ _ _
 ·obtain⟨b2,rfl,rfl,h6⟩:=hc.open (by omega);exact .poly _ _ _ _ (hF _ (jt.2 rfl)) h h6 hl
def Bod.at(b:Bod)(A:Option Addr)(c:Nat):Bod:=⟨⟨b.sh.r,b.sh.poly,A,c⟩,b.mot,b.a,b.b⟩
theorem fJ{l:List α}{x d:α}(h:i<l.length):(l.set i x).getD i d=x:=by simp[h]
theorem fw{l:List α}{x d:α}(h:¬ i=k):(l.set i x).getD k d=l.getD k d:=by simp[ab5,h]
theorem MM{l:List Bod}(h:i<l.length)(A:Option Addr)(c:Nat):cF (jO l) i 1 (.slice A (l.getD i dB).sh.poly.length c)=jO (l.set i ((l.getD i dB).at A c)):=by
 funext j k;unfold cF
 by_cases h1:j=i
 ·subst h1;show _=lE.cell ((l.set j ((l.getD j dB).at A c)).getD j dB) k;rw[fJ h]
  by_cases h2:k=1
  ·subst h2;simp;rfl
  ·rw[if_neg (by simp[h2])];show lE.cell (l.getD j dB) k=_;rcases k with _|_|k
   ·rfl
   ·exact absurd rfl h2
   ·rcases k with _|_|_|_|_|_|k <;> rfl
 ·rw[if_neg (by simp[h1])];show lE.cell (l.getD j dB) k=lE.cell ((l.set i _).getD j dB) k;rw[fw (λ e=>h1 e.symm)]
structure SetEq(S S':Setup):Prop where
 nums:S'.players=S.players/\S'.nb=S.nb/\S'.box=S.box/\S'.rn=S.rn/\S'.dn=S.dn/\S'.fog=S.fog/\S'.g=S.g/\S'.push=S.push/\S'.drag=S.drag/\S'.rest=S.rest/\S'.rounds=S.rounds/\S'.fuel=S.fuel
 bod:∀k,k<S.nb->∃A c,S'.body k=(S.body k).at A c
 whole:S'.bo=0/\S'.bods.length=S.nb
def De(S:Setup)(rs:List Bx)(ds:List Dr)(U:HL):Prop:=∀F,(∀y∈U,y∈F)->SetIn F S/\MapIn F S rs ds
theorem BR(hS:SetCl F S)(hM:MapIn F S rs ds)(h1:1<=S.nb)(UN:S.rn<=1000000)(Yd:S.dn<=1000000):aeo 47 #[Setup.v S] (ap [] []) F (λ u H'=>∃x:Setup×HL,H'=ap [] [x.2]/\(u=Setup.v x.1/\SetEq S x.1/\De x.1 rs ds x.2)):=by
 have hp:=hS.pl;have hn:=hS.nb;have hr:=hS.room;refine QU Tryz.func47 hS.blk<|ae 10 [.o 1] λ n1=>SP (sr S.bc (RowL.src Be (by decide) (FH hS.toSh).up) (by omega)) ?_;rintro _ ⟨A2,c3,T4⟩ ⟨rfl,hc5⟩;dsimp only at hc5;refine ae 7 [.o 1] λ _=>?_;obtain⟨bb,rfl,rfl,Xx⟩:=hc5.open (by rw[kg];omega);have hcap:S.nb<=c3:=by rw[kg] at Xx;exact Xx
 refine RN.ot 0 (x:=(bb,.rows 9 c3 (jO (l9 S)) 75 (0,0)))<|SO 7 [.o 2]<|aau<|aat (σ:=Nat×List Bod×HL) (λ ⟨i,bods,U_⟩=>⟨[(1,vP (n1+0) 0),(2,vP (n1+1) 0),(10,vI (S.nb:Int)),(11,vI (i:Int))],[(bb,.rows 9 c3 (jO bods) 75 (0,0)),((n1+1),.lit [vI 0,.slice none 0 0,vI 0,vI 0,vI 0,vI 0,.slice none 0 0,.slice none 0 0,vI 0,vI 0,vI 0,vI 0,vI 0,vI 0,vI 0,vI 0] 34 (0,0)),((n1+0),.lit [vI S.players,vS bb 0 S.nb c3,vI S.box.x0,vI S.box.y0,vI S.box.x1,vI S.box.y1,.slice S.rA S.rn S.rc,.slice S.dA S.dn S.dc,vI S.fog,vI S.g.x,vI S.g.y,vI S.push,vI S.drag,vI S.rest,vI S.rounds,vI S.fuel] 34 (0,0))],[U_],i<=S.nb/\bods.length=S.nb/\(∀k,k<S.nb->∃A c,bods.getD k dB=(S.body k).at A c)/\(∀k,k<i->ShH (bods.getD k dB).sh U_)/\∀k,i<=k->k<S.nb->bods.getD k dB=S.body k,S.nb-i⟩) (0,l9 S,[]) [0,1,2] [0] (⟨aaJ _,kg S,λ k hk=>⟨_,_,mL hk⟩,λ k hk=>absurd hk (pt _),λ k _ hk=>mL hk⟩) ?_;rintro⟨i,bods,U_⟩ ⟨XJ,Wd,abT,Zs,acZ⟩ XR;refine OU 6<|aaq ((i:Int)<(S.nb:Int)) 12 (λ h8=>?_) λ h8=>?_
 ·refine ae 7 [] λ _=>?_;have aaY:(RowL jg 32 F (bods.getD i dB).sh.A (bods.getD i dB).sh.poly.length (bods.getD i dB).sh.poly/\(bods.getD i dB).sh.poly.length<=1000000)/\((bods.getD i dB).sh.poly=[]\/3<=(bods.getD i dB).sh.poly.length):=by rw[acZ i (aaI _) (by omega)];exact hS.shp i (by omega)
  have afb:=aaY.1.1;have aiC:(bods.getD i dB).sh.poly.length<=100000000:=by have:=aaY.1.2;omega
  refine OU 4<|aap [14] []<|aA [] [0,2,3,5,1,4,6,7,8,9] [.o 2,.o 2,.ix i,.row 0 i 1] [((0+i*9)+1)=i*9+1/\i<c3,(i:Int)=((i:Nat):Int)/\i<S.nb]<|aag 10 (Q1 [] (tS ((bods.getD i dB).sh.cap) (RowL.src lX (by decide) afb.up) aiC) ?_);rintro _ ⟨A9,Yu,UQ⟩ ⟨rfl,ZN⟩;dsimp only at ZN;refine aA [] [11,12,13] [.ix i] [(i:Int)=((i:Nat):Int)/\i<S.nb]<|aag 14 (fK [] [.row 0 i 1] [((0+i*9)+1)=i*9+1/\i<c3] λ _=>?_);refine aaf<|ah 6 [.nw] [aI ((i:Int)+1)] λ _=>aak 0 (congrArg (λ v_=>(.rows 9 c3 v_ 75 (0,0):Blk)) (show (cF (jO bods) i 1 (.slice A9 ((bods.getD i dB).sh.poly.length) Yu))=(jO (bods.set i ((bods.getD i dB).at A9 Yu))) from (MM (by omega) A9 Yu)))<|uq [1,0]<|xL<|XR (i+1,(bods.set i ((bods.getD i dB).at A9 Yu)),U_++UQ) [0,1,2] [0] ?_
  try dsimp only
  refine⟨⟨by omega,by rw[abE];exact Wd,λ t ht=>?_,λ t ht=>?_,λ t h1_ UJ=>?_⟩,by omega⟩
  ·rcases Decidable.em (i=t) with rfl|h_
   ·rw[fJ (by omega),acZ i (aaI _) ht];exact⟨_,_,rfl⟩
   ·rw[fw h_];exact abT t ht
  ·rcases Decidable.em (i=t) with rfl|h_
   ·rw[fJ (by omega)];exact ShH.right (FI aaY.2 aaY.1.2 ZN)
   ·rw[fw h_];exact(Zs t (by omega)).left
  ·rw[fw (by omega)];exact acZ t (by omega) UJ
 ·refine SO 10 [.o 2]<|SP (tT S.rc (RowL.src Oq (by decide) hM.rooms.up) (by omega)) ?_;rintro _ ⟨A13,c14,VN⟩ ⟨rfl,af0⟩;dsimp only at af0;refine SO 8 [.o 2,.o 2]<|SP (sA S.dc (RowL.src Ot (by decide) hM.doors.up) (by omega)) ?_;rintro _ ⟨A17,c18,T19⟩ ⟨rfl,afZ⟩;dsimp only at afZ;refine SO 10 (ow 2 17++ow 1 16)<|QV (ow 1 16) [0] [0,1,2] (.agg #[vI S.players,vS bb 0 S.nb c3,vI S.box.x0,vI S.box.y0,vI S.box.x1,vI S.box.y1,.slice A13 S.rn c14,.slice A17 S.dn c18,vI S.fog,vI S.g.x,vI S.g.y,vI S.push,vI S.drag,vI S.rest,vI S.rounds,vI S.fuel]) (ap [(bb,.rows 9 c3 (jO bods) 75 (0,0))] [T19,VN,U_]) ?_;have ei:i=S.nb:=by omega
  subst ei;have ZO:∀k,bods.getD (0+k) dB=bods.getD k dB:=λ k=>by rw[abp]
  refine⟨((⟨S.players,bb,0,S.nb,c3,c3,bods,S.box,A13,S.rn,c14,A17,S.dn,c18,S.fog,S.g,S.push,S.drag,S.rest,S.rounds,S.fuel⟩:Setup),[(bb,.rows 9 c3 (jO bods) 75 (0,0))]++(T19++VN++U_)),(by simp[ap]),rfl,⟨⟨rfl,rfl,rfl,rfl,rfl,rfl,rfl,rfl,rfl,rfl,rfl,rfl⟩,λ k hk=>?_,rfl,Wd⟩,λ F2 hF=>⟨⟨⟨hp,by omega⟩,hF _ (by simp),(by show 0+S.nb<=c3;omega),λ k hk=>?_⟩,?_,?_⟩⟩
  ·obtain⟨A,c,h⟩:=abT k hk;exact⟨A,c,by show bods.getD (0+k) dB=_;rw[ZO];exact h⟩
  ·show ShIn F2 (bods.getD (0+k) dB).sh;rw[ZO];exact Zs k hk F2 λ x hx=>hF x (by simp[hx])
  ·have h_:=af0.rowL (F:=F2) λ x hx=>hF x (by simp[hx]);rw[hM.rooms.len] at h_;exact h_
  ·have h_:=afZ.rowL (F:=F2) λ x hx=>hF x (by simp[hx]);rw[hM.doors.len] at h_;exact h_
theorem BS(h:SetN S)(hi:i<S.nb):cF (cF (cF (cF (cF (cF (bF (b8 S i)) ((af S i).toNat+0) 0 (vI (S.body i).mot.px)) ((af S i).toNat+1) 0 (vI (S.body i).mot.py)) ((af S i).toNat+2) 0 (vI (S.body i).mot.vx)) ((af S i).toNat+3) 0 (vI (S.body i).mot.vy)) ((af S i).toNat+4) 0 (vI (S.body i).a)) ((af S i).toNat+5) 0 (vI (S.body i).b)=bF (b8 S (i+1)):=by
 have hb:=mG h hi;rw[<- uz h hi];rw[show (af S i+1).toNat=(af S i).toNat+1 by omega,show (af S i+2).toNat=(af S i).toNat+2 by omega,show (af S i+3).toNat=(af S i).toNat+3 by omega,show (af S i+4).toNat=(af S i).toNat+4 by omega,show (af S i+5).toNat=(af S i).toNat+5 by omega];rfl
theorem FJ(hS:SetCl F S):aeo 49 #[Setup.v S] (ap [] []) F (λ u H'=>∃q,H'=ap [(q,.rows 1 (sizeOf S).toNat (bF (b8 S S.nb)) 3 (0,0))] []/\u=vS q 0 (sizeOf S).toNat (sizeOf S).toNat):=by
 have hp:=hS.pl;have hn:=hS.nb;have hr:=hS.room;have hz:=cz hS.toSetN;refine QU Tryz.func49 hS.blk<|ae 13 [.o 0] λ n1=>aaq (S.players<0) 10 (λ h2=>?_) λ h2=>?_
 ·(exfalso;omega)
 ·refine SO 6 [.o 0]<|aaq (S.players>1048576) 14 (λ h3=>?_) λ h3=>?_
  ·(exfalso;omega)
  ·refine SO 6 (ow 0 16)<|aal (Ew hS.toSetN)<|ah 14 [.mk ((sizeOf S).toNat) ((sizeOf S).toNat),.o 1] [sizeOf S=(((sizeOf S).toNat:Nat):Int)/\sizeOf S=(((sizeOf S).toNat:Nat):Int)/\(sizeOf S).toNat<=(sizeOf S).toNat/\8*((sizeOf S).toNat)<=140737488355328/\1=1/\(sizeOf S).toNat<=9223372036854775807] λ n4=>aak 0 (congrArg (λ v_=>(.rows 1 ((sizeOf S).toNat) v_ 3 (0,0):Blk)) (show (vT [vI 0])=(bF (b8 S 0)) from (by rw[pF (sizeOf S).toNat] <;> rfl)))<|aat (σ:=Nat) (λ i=>⟨[(1,vP (n1+0) 0),(3,vS (n4+0) 0 ((sizeOf S).toNat) ((sizeOf S).toNat)),(19,vS S.bb (S.bo*9) S.nb S.bc),(20,vI (S.nb:Int)),(21,vI (i:Int))],[((n4+0),.rows 1 ((sizeOf S).toNat) (bF (b8 S i)) 3 (0,0)),((n1+0),.lit (Setup.l S) 34 (0,0))],[],i<=S.nb,S.nb-i⟩) 0 [0,1] [] (aaJ _) ?_;rintro i hI5 Yz;refine OU 6<|aaq ((i:Int)<(S.nb:Int)) 22 (λ h7=>?_) λ h7=>?_
   ·have hbi:=mG hS.toSetN (i:=i) (by omega);refine ah 20 ([.ix i,.rorow 0 (S.bo+i) 0,.rorow 0 (S.bo+i) 1,.rorow 0 (S.bo+i) 2,.rorow 0 (S.bo+i) 3,.rorow 0 (S.bo+i) 4,.rorow 0 (S.bo+i) 5,.rorow 0 (S.bo+i) 6,.rorow 0 (S.bo+i) 7,.rorow 0 (S.bo+i) 8]++ow 0 9++ow 2 16) [((S.bo*9+i*9)+8)=(S.bo+i)*9+8/\(S.bo+i)<S.bR,((S.bo*9+i*9)+7)=(S.bo+i)*9+7/\(S.bo+i)<S.bR,((S.bo*9+i*9)+6)=(S.bo+i)*9+6/\(S.bo+i)<S.bR,((S.bo*9+i*9)+5)=(S.bo+i)*9+5/\(S.bo+i)<S.bR,((S.bo*9+i*9)+4)=(S.bo+i)*9+4/\(S.bo+i)<S.bR,((S.bo*9+i*9)+3)=(S.bo+i)*9+3/\(S.bo+i)<S.bR,((S.bo*9+i*9)+2)=(S.bo+i)*9+2/\(S.bo+i)<S.bR,((S.bo*9+i*9)+1)=(S.bo+i)*9+1/\(S.bo+i)<S.bR,(S.bo*9+i*9)=(S.bo+i)*9+0/\(S.bo+i)<S.bR,(i:Int)=((i:Nat):Int)/\i<S.nb] λ n8=>aal (dq (i:Int) hS.toSetN) ?_;have hb9:=bT hS.toSetN (i:Int);refine ah 5 [.sl ((af S (i:Int)).toNat) ((sizeOf S).toNat) false] [af S (i:Int)=(((af S (i:Int)).toNat:Nat):Int)/\(sizeOf S).toNat=(sizeOf S).toNat/\(af S (i:Int)).toNat<=(sizeOf S).toNat/\(sizeOf S).toNat<=(sizeOf S).toNat/\(sizeOf S).toNat≠(af S (i:Int)).toNat] λ _=>aap [11,13] [0,2]<|aA [0,2] [0,1,2,6,3,7,4,8,5,9,10] [.o 0,.ro 0,.ix 0] [0=((0:Nat):Int)/\0<((sizeOf S).toNat-(af S (i:Int)).toNat)]<|aag 11 (fK [0,2] [.row 1 (((af S (i:Int)).toNat)+0) 0] [((0+((af S (i:Int)).toNat)*1)+0*1)=(((af S (i:Int)).toNat)+0)*1+0/\(((af S (i:Int)).toNat)+0)<((sizeOf S).toNat)] λ _=>?_);refine aA [0,2] [12] [.ix 1] [1=((1:Nat):Int)/\1<((sizeOf S).toNat-(af S (i:Int)).toNat)]<|aag 13 (fK [0,2] [.row 1 (((af S (i:Int)).toNat)+1) 0] [((0+((af S (i:Int)).toNat)*1)+1*1)=(((af S (i:Int)).toNat)+1)*1+0/\(((af S (i:Int)).toNat)+1)<((sizeOf S).toNat)] λ _=>?_);refine Q2 2<|aap [11,13] [0,2]<|aA [0,2] [0,1,2,6,3,7,4,8,5,9,10] [.o 0,.ro 0,.ix 2] [2=((2:Nat):Int)/\2<((sizeOf S).toNat-(af S (i:Int)).toNat)]<|aag 11 (fK [0,2] [.row 1 (((af S (i:Int)).toNat)+2) 0] [((0+((af S (i:Int)).toNat)*1)+2*1)=(((af S (i:Int)).toNat)+2)*1+0/\(((af S (i:Int)).toNat)+2)<((sizeOf S).toNat)] λ _=>?_);refine aA [0,2] [12] [.ix 3] [3=((3:Nat):Int)/\3<((sizeOf S).toNat-(af S (i:Int)).toNat)]<|aag 13 (fK [0,2] [.row 1 (((af S (i:Int)).toNat)+3) 0] [((0+((af S (i:Int)).toNat)*1)+3*1)=(((af S (i:Int)).toNat)+3)*1+0/\(((af S (i:Int)).toNat)+3)<((sizeOf S).toNat)] λ _=>?_);refine Q2 1<|aap [7,9] [0,2]<|aA [0,2] [0,1,2,4,3,5,6] [.o 0,.ro 0,.ix 4] [4=((4:Nat):Int)/\4<((sizeOf S).toNat-(af S (i:Int)).toNat)]<|aag 7 (fK [0,2] [.row 1 (((af S (i:Int)).toNat)+4) 0] [((0+((af S (i:Int)).toNat)*1)+4*1)=(((af S (i:Int)).toNat)+4)*1+0/\(((af S (i:Int)).toNat)+4)<((sizeOf S).toNat)] λ _=>?_);refine aA [0,2] [8] [.ix 5] [5=((5:Nat):Int)/\5<((sizeOf S).toNat-(af S (i:Int)).toNat)]<|aag 9 (fK [0,2] [.row 1 (((af S (i:Int)).toNat)+5) 0] [((0+((af S (i:Int)).toNat)*1)+5*1)=(((af S (i:Int)).toNat)+5)*1+0/\(((af S (i:Int)).toNat)+5)<((sizeOf S).toNat)] λ _=>?_);refine aaf<|ah 6 [.nw] [aI ((i:Int)+1)] λ _=>aak 1 (congrArg (λ v_=>(.rows 1 ((sizeOf S).toNat) v_ 3 (0,0):Blk)) (show (cF (cF (cF (cF (cF (cF (bF (b8 S i)) (((af S (i:Int)).toNat)+0) 0 (vI ((S.bods.getD (S.bo+i) dB).mot.px))) (((af S (i:Int)).toNat)+1) 0 (vI ((S.bods.getD (S.bo+i) dB).mot.py))) (((af S (i:Int)).toNat)+2) 0 (vI ((S.bods.getD (S.bo+i) dB).mot.vx))) (((af S (i:Int)).toNat)+3) 0 (vI ((S.bods.getD (S.bo+i) dB).mot.vy))) (((af S (i:Int)).toNat)+4) 0 (vI ((S.bods.getD (S.bo+i) dB).a))) (((af S (i:Int)).toNat)+5) 0 (vI ((S.bods.getD (S.bo+i) dB).b)))=(bF (b8 S (i+1))) from (by rw[<- BS hS.toSetN (i:=i) (by omega)] <;> kernel_rfl)))<|Yz (i+1) [1,2] [] ?_
    try dsimp only
    exact⟨by omega,by omega⟩
   ·refine OU 12<|QV [] [0] [] (vS (n4+0) 0 ((sizeOf S).toNat) ((sizeOf S).toNat)) [((n4+0),.rows 1 ((sizeOf S).toNat) (bF (b8 S i)) 3 (0,0))] ?_;have ei:i=S.nb:=by omega
    subst ei;exact⟨_,rfl,rfl⟩
abbrev gv(S:Setup)(bp mb:Nat):List Value:=[vI S.players,vS S.bb (S.bo*9) S.nb S.bc,vI S.box.x0,vI S.box.y0,vI S.box.x1,vI S.box.y1,.slice S.rA S.rn S.rc,.slice S.dA S.dn S.dc,vI S.fog,vI S.g.x,vI S.g.y,vI S.push,vI S.drag,vI S.rest,vI S.rounds,vI S.fuel,vP bp 0,vP mb 0]
inductive GameH(rs:List Bx)(ds:List Dr)(bp gb:Nat)(S:Setup)(M:MemS)(k:Nat):HL->Prop
 |mk (mb:Nat) (T U:HL) (hM:MemH mb M k T) (hU:De S rs ds U):GameH rs ds bp gb S M k (ap [(gb,.lit (gv S bp mb) 125 (0,0))] [T,U])
theorem Jr{q:Nat}{cs:List Int}(hn:cs.length=n)(hq:(q,.rows 1 n (bF cs) 3 (0,0))∈F)(hc:n<=1000000)(hk:k<=100000000)(hcap:n<=cap):aeo 48 #[vS q 0 n cap] (ap [] []) F (λ u H'=>∃x:Nat×HL,H'=ap [] [x.2]/\(u=vP x.1 0/\MemH x.1 ⟨cs,[],0⟩ k x.2)):=by
 subst hn;exact Mo hq hc hk hcap
theorem sH(bp:Nat)(hS:SetCl F S)(hM:MapIn F S rs ds)(h1:1<=S.nb)(UN:S.rn<=1000000)(Yd:S.dn<=1000000)(RW:(sizeOf S).toNat<=1000000)(hv:gq S rs ds=0)(k:Nat)(hk:k<=100000000):aeo 22 #[Setup.v S,vP bp 0] (ap [] []) F (λ u H'=>∃x:Nat×Setup×HL,H'=ap [] [x.2.2]/\(u=.tuple #[vP x.1 0,vI 0]/\SetEq S x.2.1/\GameH rs ds bp x.1 x.2.1 ⟨b8 S S.nb,[],0⟩ k x.2.2)):=by
 refine QT Tryz.func22<|ae 11 (ow 0 16) λ n1=>aal (Dd hS.up.toSh hM.up)<|OU 9<|aas 10 (nt (abk hv))<|OU 4<|aap [] []<|ag [] [0,2,3] (ow 0 32)<|aag 1 (Q1 [] (BR hS.up hM.up h1 UN Yd) ?_);rintro _ ⟨S2,U3⟩ ⟨rfl,he4,hU5⟩;dsimp only at he4 hU5;refine aag 4 (Q1 [] (FJ hS.up) ?_);rintro _ q6 rfl;refine aag 5 (Q1 [] (Jr (q:=q6) (cs:=b8 S S.nb) (cap:=(sizeOf S).toNat) (j7 _ _) (aw 0) RW hk (aaI _)) ?_);rintro _ ⟨m7,T8⟩ ⟨rfl,YP⟩;dsimp only at YP;refine aem [6]<|aag 7 (aai [] [] λ Wi=>?_);refine aem [8,9]<|Q2 1<|QV [] [0] [0,1] (.tuple #[vP (Wi+0) 0,vI 0]) (ap [((Wi+0),.lit [vI S2.players,vS S2.bb (S2.bo*9) S2.nb S2.bc,vI S2.box.x0,vI S2.box.y0,vI S2.box.x1,vI S2.box.y1,.slice S2.rA S2.rn S2.rc,.slice S2.dA S2.dn S2.dc,vI S2.fog,vI S2.g.x,vI S2.g.y,vI S2.push,vI S2.drag,vI S2.rest,vI S2.rounds,vI S2.fuel,vP bp 0,vP m7 0] 125 (0,0))] [T8,U3]) ⟨((Wi+0),S2,ap [((Wi+0),.lit (gv S2 bp m7) 125 (0,0))] [T8,U3]),by simp[ap],rfl,he4,.mk _ _ _ YP hU5⟩
theorem FK(bp:Nat)(hS:SetSh F S)(hM:MapIn F S rs ds)(hv:¬ gq S rs ds=0):aen 22 #[(Setup.v S),vP bp 0] F (.tuple #[.pointer none,vI (gq S rs ds)]):=by
 refine QT Tryz.func22<|ae 11 (ow 0 16) λ n1=>aal (Dd hS.up hM.up)<|OU 9<|aas 10 (nf (abh hv))<|ae 8 [] λ _=>QW _ _ ⟨rfl,rfl⟩
theorem Js(hg:(gb,.lit (gv S bp mb) 125 (0,0))∈F):aen 24 #[vP gb 0] F (vP mb 0):=by
 refine QU Tryz.func24 hg<|ae 14 [.ro 0] λ _=>QW _ _ ⟨rfl,rfl⟩
def TT(cs:List Int):Prop:=(cs.getD 1 0=0/\cs.getD 2 0=0/\cs.getD 3 0=0/\cs.getD 4 0=0/\cs.getD 5 0=0/\cs.getD 6 0=0/\cs.getD 7 0=0/\cs.getD 8 0=0/\cs.getD 9 0=0/\cs.getD 10 0=0)/\cs.getD 0 0>=0/\cs.getD 0 0<=6000
instance (cs:List Int):Decidable (TT cs):=inferInstanceAs (Decidable (_/\_))
theorem MemH.len2(h:MemH mb M k T):M.lg.length+k<=100000000:=by
 cases h with
 |mk cb A cap Hl hs hc hl=>exact hl
def RO(na nb:Nat)(xs ys:List Int):Prop:=na=nb/\∀k,k<na->xs.getD k 0=ys.getD k 0
instance (na nb:Nat) (xs ys:List Int):Decidable (RO na nb xs ys):=inferInstanceAs (Decidable (_/\_))
def cS(x:Inp):Prop:=(¬ x.dx< -1/\¬ x.dx>1)/\(¬ x.dy< -1/\¬ x.dy>1)/\¬ x.act<0/\¬ x.act>3
instance (x:Inp):Decidable (cS x):=inferInstanceAs (Decidable (_/\_))
def bm(pl:Int)(n:Nat)(xs:List Inp)(now:Int):Int:=if (n:Int)=pl then (if ∀k,k<n->cS (xs.getD k dI) then (if now>=6000 then 2 else 0) else 1) else 17
theorem yR{cb:Nat}{m:Nat}{base:Int}(hm:(mb,.lit [vS cb 0 n n,.slice A m cap,vI base] 164 (0,0))∈F):aen 89 #[vP mb 0] F (vI (aR (base+(m:Int)))):=by
 refine QU Tryz.func89 hm<|OU 6<|aap [] []<|ag [] [0,4,1,5,2,6,3,7,8,9,10] [.ro 0,.ro 0]<|aaf<|ae 1 [] λ _=>QW _ _ ⟨rfl,rfl⟩
theorem yS(h:MemH mb M k T)(hs:∀x∈T,x∈F):aen 89 #[vP mb 0] F (vI (aR (M.base+(M.lg.length:Int)))):=by
 cases h with
 |mk cb A cap Hl WR hc hl=>exact yR (mb:=mb) (cb:=cb) (n:=M.cs.length) (A:=A) (m:=M.lg.length) (cap:=cap) (base:=M.base) (F:=F) (hs _ (by simp))
theorem sI(hg:(gb,.lit (gv S bp mb) 125 (0,0))∈F)(hM:MemH mb M k T)(hT:∀x∈T,x∈F):aen 53 #[vP gb 0] F (vI (M.get 0)):=by
 refine QU Tryz.func53 hg<|SO 11 [.ro 0]<|aal (aD 0 hM (λ x hx=>aC (hT x hx)))<|ae 3 [] λ _=>QW _ _ ⟨rfl,rfl⟩
theorem BT(A:Option Addr) (cap:Nat)(xs:List Inp)(hg:(gb,.lit (gv S bp mb) 125 (0,0))∈F)(hM:MemH mb M k T)(hT:∀x∈T,x∈F)(hl:RowB F A n λ k=>xs.getD k dI)(hn:n<=1000000):aen 91 #[vP gb 0,.slice A n cap] F (vI (bm S.players n xs (M.get 0))):=by
 refine QU Tryz.func91 hg<|SO 18 [.ro 0]<|aar ((n:Int)=S.players) 14 (λ h1=>?_) λ h1=>?_
 ·refine OU 12<|aat (σ:=Nat) (λ k_=>⟨[(0,vP gb 0),(15,.slice A n cap),(16,vI (n:Int)),(17,vI (k_:Int))],[],[],k_<=n/\∀t,t<k_->cS (xs.getD t dI),n-k_⟩) 0 [] [] (⟨aaJ _,λ t ht=>absurd ht (pt _)⟩) ?_;rintro k_ ⟨hkl,dO⟩ OF;refine OU 6<|aaq ((k_:Int)<(n:Int)) 18 (λ h4=>?_) λ h4=>?_
  ·refine ae 7 [] λ _=>?_;obtain⟨qx5,VP,VM,adw⟩:=hl.at (k:=k_) (by omega);refine aM 15 (congrArg (λ v_=>(.slice v_ n cap:Value)) VM)<|ah 1 [.ix k_] [(k_:Int)=((k_:Nat):Int)/\k_<n] λ _=>Bc [vI (xs.getD k_ dI).dx,vI (xs.getD k_ dI).dy,vI (xs.getD k_ dI).act] (λ w_ h_=>adw w_ h_ k_ (by omega))<|ae 10 (aab 4) λ n6=>aaq ((xs.getD k_ dI).dx<(-1)) 24 (λ h7=>?_) λ h7=>?_
   ·refine ae 32 [] λ _=>QW (vI 1) _ ⟨by rw[bm,if_pos (by omega),if_neg (λ h_=>by have UJ:=h_ k_ (by omega);unfold cS at UJ;omega)],rfl⟩
   ·refine SO 5 [.o 0]<|aaq ((xs.getD k_ dI).dx>1) 29 (λ h8=>?_) λ h8=>?_
    ·refine ae 27 [] λ _=>QW (vI 1) _ ⟨by rw[bm,if_pos (by omega),if_neg (λ h_=>by have UJ:=h_ k_ (by omega);unfold cS at UJ;omega)],rfl⟩
    ·refine SO 5 [.o 0]<|aaq ((xs.getD k_ dI).dy<(-1)) 34 (λ h9=>?_) λ h9=>?_
     ·refine ae 22 [] λ _=>QW (vI 1) _ ⟨by rw[bm,if_pos (by omega),if_neg (λ h_=>by have UJ:=h_ k_ (by omega);unfold cS at UJ;omega)],rfl⟩
     ·refine SO 5 [.o 0]<|aaq ((xs.getD k_ dI).dy>1) 39 (λ No=>?_) λ No=>?_
      ·refine ae 17 [] λ _=>QW (vI 1) _ ⟨by rw[bm,if_pos (by omega),if_neg (λ h_=>by have UJ:=h_ k_ (by omega);unfold cS at UJ;omega)],rfl⟩
      ·refine SO 5 [.o 0]<|aaq ((xs.getD k_ dI).act<0) 44 (λ IN=>?_) λ IN=>?_
       ·refine ae 12 [] λ _=>QW (vI 1) _ ⟨by rw[bm,if_pos (by omega),if_neg (λ h_=>by have UJ:=h_ k_ (by omega);unfold cS at UJ;omega)],rfl⟩
       ·refine SO 6 [.o 0]<|aaq ((xs.getD k_ dI).act>3) 48 (λ H_=>?_) λ H_=>?_
        ·refine ae 6 [] λ _=>QW (vI 1) _ ⟨by rw[bm,if_pos (by omega),if_neg (λ h_=>by have UJ:=h_ k_ (by omega);unfold cS at UJ;omega)],rfl⟩
        ·refine ah 8 [.nw] [aI ((k_:Int)+1)] λ _=>aM 15 (congrArg (λ v_=>(.slice v_ n cap:Value)) VM.symm)<|OF (k_+1) [] [] ?_
         try dsimp only
         refine⟨⟨by omega,λ t ht=>?_⟩,by omega⟩;rcases aaV t k_ with h_|h_
         ·exact dO t h_
         ·obtain rfl:t=k_:=by omega
          exact⟨⟨h7,h8⟩,⟨h9,No⟩,IN,H_⟩
  ·refine OU 10<|aal (sI (aC hg) hM (λ x hx=>aC (hT x hx)))<|OU 3<|aaq (M.get 0>=6000) 52 (λ U8=>?_) λ U8=>?_
   ·refine ae 6 [] λ _=>QW (vI 2) _ ⟨by rw[bm,if_pos (by omega),if_pos (λ t ht=>dO t (by omega)),if_pos (by omega)],rfl⟩
   ·refine ae 8 [] λ _=>QW (vI 0) _ ⟨by rw[bm,if_pos (by omega),if_pos (λ t ht=>dO t (by omega)),if_neg (by omega)],rfl⟩
 ·refine ae 6 [] λ _=>QW (vI 17) _ ⟨by rw[bm,if_neg (by omega)],rfl⟩
theorem FM(S:Setup)(now:Int)(A:Option Addr) (cap:Nat)(xs:List Inp)(hl:RowB F A n λ k=>xs.getD k dI)(hn:n<=1000000):aen 41 #[(Setup.v S),vI now,.slice A n cap] F (vI (bm S.players n xs (now))):=by
 refine QT Tryz.func41<|ae 16 [.o 0] λ n1=>aar ((n:Int)=S.players) 13 (λ h2=>?_) λ h2=>?_
 ·refine OU 10<|aat (σ:=Nat) (λ k_=>⟨[(1,vI now),(2,.slice A n cap),(7,vI (k_:Int))],[((n1+0),.lit (Setup.l S) 34 (0,0))],[],k_<=n/\∀t,t<k_->cS (xs.getD t dI),n-k_⟩) 0 [0] [] (⟨aaJ _,λ t ht=>absurd ht (pt _)⟩) ?_;rintro k_ ⟨hkl,dO⟩ YA;refine OU 9<|aaq ((k_:Int)<(n:Int)) 17 (λ h5=>?_) λ h5=>?_
  ·refine ae 9 [] λ _=>?_;obtain⟨qx6,Z4,ZZ,akj⟩:=hl.at (k:=k_) (by omega);refine aM 20 (congrArg (λ v_=>(.slice v_ n cap:Value)) ZZ)<|ah 1 [.ix k_] [(k_:Int)=((k_:Nat):Int)/\k_<n] λ _=>Bc [vI (xs.getD k_ dI).dx,vI (xs.getD k_ dI).dy,vI (xs.getD k_ dI).act] (λ w_ h_=>akj w_ h_ k_ (by omega))<|ae 10 (aab 4) λ n7=>aaq ((xs.getD k_ dI).dx<(-1)) 27 (λ h8=>?_) λ h8=>?_
   ·refine ae 32 [] λ _=>QW (vI 1) _ ⟨by rw[bm,if_pos (by omega),if_neg (λ h_=>by have UJ:=h_ k_ (by omega);unfold cS at UJ;omega)],rfl⟩
   ·refine SO 5 [.o 0]<|aaq ((xs.getD k_ dI).dx>1) 32 (λ h9=>?_) λ h9=>?_
    ·refine ae 27 [] λ _=>QW (vI 1) _ ⟨by rw[bm,if_pos (by omega),if_neg (λ h_=>by have UJ:=h_ k_ (by omega);unfold cS at UJ;omega)],rfl⟩
    ·refine SO 5 [.o 0]<|aaq ((xs.getD k_ dI).dy<(-1)) 37 (λ No=>?_) λ No=>?_
     ·refine ae 22 [] λ _=>QW (vI 1) _ ⟨by rw[bm,if_pos (by omega),if_neg (λ h_=>by have UJ:=h_ k_ (by omega);unfold cS at UJ;omega)],rfl⟩
     ·refine SO 5 [.o 0]<|aaq ((xs.getD k_ dI).dy>1) 42 (λ IN=>?_) λ IN=>?_
      ·refine ae 17 [] λ _=>QW (vI 1) _ ⟨by rw[bm,if_pos (by omega),if_neg (λ h_=>by have UJ:=h_ k_ (by omega);unfold cS at UJ;omega)],rfl⟩
      ·refine SO 5 [.o 0]<|aaq ((xs.getD k_ dI).act<0) 47 (λ H_=>?_) λ H_=>?_
       ·refine ae 12 [] λ _=>QW (vI 1) _ ⟨by rw[bm,if_pos (by omega),if_neg (λ h_=>by have UJ:=h_ k_ (by omega);unfold cS at UJ;omega)],rfl⟩
       ·refine SO 6 [.o 0]<|aaq ((xs.getD k_ dI).act>3) 51 (λ U8=>?_) λ U8=>?_
        ·refine ae 6 [] λ _=>QW (vI 1) _ ⟨by rw[bm,if_pos (by omega),if_neg (λ h_=>by have UJ:=h_ k_ (by omega);unfold cS at UJ;omega)],rfl⟩
        ·refine ah 9 [.nw] [aI ((k_:Int)+1)] λ _=>YA (k_+1) [1] [] ?_
         try dsimp only
         refine⟨⟨by omega,λ t ht=>?_⟩,by omega⟩;rcases aaV t k_ with h_|h_
         ·exact dO t h_
         ·obtain rfl:t=k_:=by omega
          exact⟨⟨h8,h9⟩,⟨No,IN⟩,H_,U8⟩
  ·refine OU 13<|aaq (now>=6000) 53 (λ Vu=>?_) λ Vu=>?_
   ·refine ae 6 [] λ _=>QW (vI 2) _ ⟨by rw[bm,if_pos (by omega),if_pos (λ t ht=>dO t (by omega)),if_pos (by omega)],rfl⟩
   ·refine ae 8 [] λ _=>QW (vI 0) _ ⟨by rw[bm,if_pos (by omega),if_pos (λ t ht=>dO t (by omega)),if_neg (by omega)],rfl⟩
 ·refine ae 6 [] λ _=>QW (vI 17) _ ⟨by rw[bm,if_neg (by omega)],rfl⟩
theorem FN(gb ib ia ni ic:Nat):aeo 93 #[vP gb 0,vS ib ia ni ic] (ap [] []) F (λ u H'=>∃n:Nat,H'=ap [((n+1),.lit [vS ib ia ni ic] 25 (0,0)),((n+0),.lit [vP gb 0] 80 (0,0))] []/\u=.func (.func 122) #[] #[vP (n+0) 0,vP (n+1) 0]):=by
 refine QT Tryz.func93<|ae 13 [] λ n1=>QV [] [0,1] [] (.func (.func 122) #[] #[vP (n1+0) 0,vP (n1+1) 0]) (ap [((n1+1),.lit [vS ib ia ni ic] 25 (0,0)),((n1+0),.lit [vP gb 0] 80 (0,0))] []) ⟨_,rfl,rfl⟩
end
end Go.Proofs.YtogafelgppjklaaGreatDoor
