import Derived.Test.YthoijjeddhfcnaaGreatW11
import Derived.Test.YthoijjeddhfcnaaGreatW21
import Derived.Lib.SlicesCompact
import Derived.Test.YthoijjeddhfcnaaGreatW20
set_option maxHeartbeats 4000000
set_option maxRecDepth 100000
set_option linter.unusedSimpArgs false
set_option linter.unusedVariables false
namespace Go.Proofs.YthoijjeddhfcnaaGreat
open Go.RowKit Go.Shelf
def SpD (P:Program) (f:FuncId) (args:Array Value) (H F:HL) (R:Value -> HL -> Prop):Prop :=
  ∀ w,Rel (H++F) w -> CallsDIn (Wr none) 0 P f args .returning w λ e u' w'=>u'=.returning /\ ∃ v H',e=.returned v /\ R v H' /\ Rel (H'++F) w' /\ Below 0 w w'
theorem SpD.mono {P:Program} {f:FuncId} {args:Array Value} {H F:HL} {R R':Value -> HL -> Prop} (h:SpD P f args H F R) (hr:∀ v H',R v H' -> R' v H'):SpD P f args H F R' :=
  λ w hR=>(h w hR).mono λ e u' w' ⟨h0,v,H',h1,h2,h3,h4⟩=>⟨h0,v,H',h1,hr _ _ h2,h3,h4⟩
section
variable {r:Option Nat} {P:Program} {N:Nat} {D:List Deferred} {F:HL} {w0:World} {R:HL} {s:Cfg} {Q:Exit -> Act -> World -> Prop}
def dfR (N:Nat) (s:Cfg):Option (FuncId × Array Value × Array Value):=match opAt s with
  | some o=>match o.guard,o.op,(putL N o.dst undef s.L).isSome with
    | none,.defer c,true=>match c.callee with
      | .value f=>match inL s.L f && c.args.toList.all (inL s.L) with
        | true=>match rho s.L f with
          | .func (.func g) first cap=>some (g,first++c.args.map (rho s.L),cap)
          | _=>none
        | false=>none
      | _=>none
    | _,_,_=>none
  | none=>none
abbrev dfD (g:FuncId) (args cap:Array Value):Deferred:={ target:=.fn (.func g) cap,args:=args }
theorem map_rho {L:FL} {a:Act} (hF:Fm N D L a):∀ (l:List Operand),l.all (inL L)=true -> l.map a.eval=l.map (rho L)
  | [],_=>rfl
  | x :: l,h=>by
    rw [List.all_cons,Bool.and_eq_true] at h
    rw [List.map_cons,List.map_cons,hF.eval h.1,map_rho hF l h.2]
theorem RN.df {g:FuncId} {args cap:Array Value} (hk:RN none P N (dfD g args cap :: D) F w0 R (putC N undef s) Q) (h:dfR N s=some (g,args,cap):=by kernel_rfl):RN none P N D F w0 R s Q:=by
  refine ⟨λ hR a w hF hRel hB=>?_⟩
  obtain ⟨cc,kk,L,A,Ts⟩:=s
  unfold dfR at h
  split at h
  case h_2=>cases h
  rename_i o q0
  split at h
  case h_2=>cases h
  rename_i c q1 q2 q3
  split at h
  case h_2=>cases h
  rename_i f q4
  split at h
  case h_2=>cases h
  rename_i q5
  split at h
  case h_2=>cases h
  rename_i g' first cap' q6
  simp only [Option.some.injEq,Prod.mk.injEq] at h
  obtain ⟨e1,e2,e3⟩:=h
  subst e1;subst e2;subst e3
  unfold opAt at q0
  cases cc with
  | code c=>cases q0
  | ex c=>cases q0
  | drw _ _=>cases q0
  | ops ops j =>
    simp only at q0 q3 q5 q6 hF hRel
    have hdrop:ops.toList.drop j=o :: ops.toList.drop (j+1):=by
      have hlt:j < ops.toList.length:=(List.getElem?_eq_some_iff.1 q0).1
      rw [List.drop_eq_getElem_cons hlt,(List.getElem?_eq_some_iff.1 q0).2]
    show wpListIn _ _ _ _ _ _ _ _
    rw [hdrop,wpListIn,if_pos (by simp [Region.wanted,q1])]
    refine ⟨λ _ _=>trivial,?_⟩
    rw [Bool.and_eq_true] at q5
    obtain ⟨L',hl⟩:=putL_some q3 undef
    have hpc:putC N undef ⟨.ops ops j,kk,L,A,Ts⟩=⟨.ops ops (j+1),kk,L',A,Ts⟩:=by
      unfold putC
      simp only [q0,hl]
    have hh:=hk.h hR
    rw [hpc] at hh
    have hargs:c.args.map a.eval=c.args.map (rho L):=by
      apply Array.ext'
      rw [Array.toList_map,Array.toList_map]
      exact map_rho hF _ q5.2
    have e1:a.eval f=.func (.func g') first cap':=(hF.eval q5.1).trans q6
    have hex:(o.semAt (Wr none).round a.eval).run P w=.ok (.defer (dfD g' (first++c.args.map (rho L)) cap')) w:=by
      show (Oper.semAt none a.eval o).run P w=_
      rw [Oper.semAt_none]
      simp only [execOp,q2,resolve,q4,e1,Deferred.ofValue,Sem.run_bind,hargs]
      rfl
    rw [hex,Oper.uponIn_defer]
    have hF':Fm N (dfD g' (first++c.args.map (rho L)) cap' :: D) L { a with defers:=dfD g' (first++c.args.map (rho L)) cap' :: a.defers }:=⟨hF.size,by rw [<- hF.defs],hF.has⟩
    exact hh _ w (hF'.put hl) hRel hB
structure LV (P:Program) (N:Nat) (D:List Deferred) (F:HL) (w0:World) (R:HL) (fn:Func) (R':Value -> HL -> Prop) (s:Cfg):Prop where
  h:(∀ y ∈ R,y ∈ F) -> ∀ a w,Fm N D s.L a -> Rel (ap s.A s.Ts++F) w -> Below 0 w0 w -> LeavesInM (Wr none) 0 P fn a.tmps (SpR F w0 R') a.defers .returning w
theorem RN.lv {fn:Func} {R':Value -> HL -> Prop} (hk:LV P N D F w0 R fn R' s) (hc:isDone s=true:=by kernel_rfl):RN none P N D F w0 R s (bodyPostM (Wr none) 0 P fn (SpR F w0 R')):=by
  refine ⟨λ hR a w hF hRel hB=>?_⟩
  have key:=hk.h hR a w hF hRel hB
  exact isDone_wf hc key key
def aftD (ip jp:List Nat) (Hq:HL) (Tq:List HL) (s:Cfg):Cfg:=setH (λ A=>Hq++(oth ip A.length).filterMap (A[·]?)) (λ Ts=>Tq++(oth jp Ts.length).filterMap (Ts[·]?)) s
theorem LV.df {τ:Type} {fn:Func} {R':Value -> HL -> Prop} {g:FuncId} {args cap:Array Value} (eg:∀ args w,(callFunc g args).run P w=.ok (.enter g args) w) (ip jp:List Nat) {Hp:HL} {Tp:List HL} {Hq:τ -> HL} {Tq:τ -> List HL} {Rv:Value -> τ -> Prop}
    (hc:SpD P g (args++cap) (ap Hp Tp) (ap (othA ip s) (othT jp s)++F) (λ v H'=>∃ x,H'=ap (Hq x) (Tq x) /\ Rv v x)) (hk:∀ v x,Rv v x -> LV P N D F w0 R fn R' (aftD ip jp (Hq x) (Tq x) s))
    (hp:permOk ip jp s=true:=by kernel_rfl) (hH:picks ip jp s=(Hp,Tp):=by kernel_rfl):LV P N (dfD g args cap :: D) F w0 R fn R' s:=by
  unfold permOk at hp
  unfold picks at hH
  rw [Bool.and_eq_true] at hp
  simp only [Prod.mk.injEq] at hH
  obtain ⟨e1,e2⟩:=hH
  refine ⟨λ hR a w hF hRel hB=>?_⟩
  have hperm:(ap Hp Tp++ap (othA ip s) (othT jp s)).Perm (ap s.A s.Ts):=by
    have h1:=ap_perm s.A s.Ts ip (oth ip s.A.length) jp (oth jp s.Ts.length) hp.1 hp.2
    rw [e1,e2] at h1
    exact h1
  have hR1:Rel (ap Hp Tp++(ap (othA ip s) (othT jp s)++F)) w:=by rw [<- List.append_assoc];exact hRel.perm (hperm.append_right F)
  rw [hF.defs]
  refine ⟨by simp,.inr ⟨(λ h=>by cases h),.func g,cap,g,args++cap,rfl,?_,λ _ _=>trivial,?_⟩⟩
  · show (callFunc g (args++cap)).run P w=_
    exact eg _ _
  · refine (hc w hR1).mono ?_
    rintro e u' w' ⟨rfl,v,H',rfl,⟨x,rfl,hv⟩,hR2,hB2⟩
    have:=(hk v x hv).h hR { a with defers:=D } w' ⟨hF.size,rfl,hF.has⟩ ?_ (hB.trans hB2)
    · exact this
    · unfold aftD
      rw [setH_eq.1,setH_eq.2.1]
      refine hR2.perm ?_
      exact (ap_swap _ _ _ _ _).symm
theorem LV.retO {fn:Func} {R':Value -> HL -> Prop} (hints:List Hint) (Ob:List Prop) (hob:AllP Ob) (ip jp:List Nat) {v:Value} {H':HL} (hv:R' v H')
    (h:∀ n0,retV P n0 fn.results.toList R hints s=some (v,resX (retV P n0 fn.results.toList R hints s),resX (retV P n0 fn.results.toList R hints s),Ob):=by intro n0;kernel_rfl)
    (hp:permOk ip jp s=true:=by kernel_rfl) (hH:ap (picks ip jp s).1 (picks ip jp s).2=H':=by kernel_rfl):LV P N [] F w0 R fn R' s:=by
  unfold permOk at hp
  unfold picks at hH
  refine ⟨λ hR a w hF hRel hB=>?_⟩
  rw [Bool.and_eq_true] at hp
  have h':=h w.heap.size
  unfold retV resE at h'
  split at h'
  case h_2=>cases h'
  rename_i vs ss hs
  split at h'
  case h_2=>cases h'
  simp only [resX,Option.some.injEq,Prod.mk.injEq] at h'
  obtain ⟨e1,-,e3,e4⟩:=h'
  have hrun:=resL_run (P:=P) hF hRel fn.results.toList _ _ _ hs rfl rfl hR (λ e=>by cases e) (pairs_eq rfl e3) (by rw [e4];exact AllP.mem hob)
  subst e1
  rw [hF.defs]
  exact ⟨_,results_run (by simp) hrun,_,H',rfl,hv,hRel.takeT ip _ jp _ hp.1 hp.2 hH,hB⟩
theorem LV.ret {fn:Func} {R':Value -> HL -> Prop} (hints:List Hint) (ip jp:List Nat) {v:Value} {H':HL} (hv:R' v H')
    (h:∀ n0,retV P n0 fn.results.toList R hints s=some (v,resX (retV P n0 fn.results.toList R hints s),resX (retV P n0 fn.results.toList R hints s),[]):=by intro n0;kernel_rfl)
    (hp:permOk ip jp s=true:=by kernel_rfl) (hH:ap (picks ip jp s).1 (picks ip jp s).2=H':=by kernel_rfl):LV P N [] F w0 R fn R' s:=LV.retO hints [] trivial ip jp hv h hp hH
end
section
variable {r:Option Nat} {P:Program} {N:Nat} {D:List Deferred} {F:HL} {w0:World} {R:HL} {s:Cfg} {Q:Exit -> Act -> World -> Prop}
end
section
variable {D:Int -> Prop} {P:MemS -> MemS -> Prop} {M N:MemS}
end
def AgD (D:Int -> Prop) (A B:MemS):Prop:=A.cs.length=B.cs.length /\ ∀ y,D y -> A.get y=B.get y
def OffC (y:Int):Prop:=y < 1 \/ 5 < y
def stp0 (S:Setup) (i j:Int):Stp:=⟨S,none,0,0,0,0,0,0,0,0,0,0,0,[],i,j,false,0,0,0,0,false,[]⟩
def conG (S:Setup) (i j:Int) (M:MemS):MemS:=touchF (stp0 S i j) M
def innG (S:Setup) (i:Int):Int -> Nat -> MemS -> MemS
  | _,0,M=>M
  | j,k+1,M=>innG S i (j+1) k (conG S i j M)
def outG (S:Setup):Int -> Nat -> MemS -> MemS
  | _,0,M=>M
  | i,k+1,M=>outG S (i+1) k (innG S i (i+1) k M)
def rndG (S:Setup):Nat -> MemS -> MemS
  | 0,M=>M
  | k+1,M=>rndG S k (outG S 0 S.nb M)
abbrev Any (_:MemS):Prop:=True
def earG (S:Setup) (i j:Int) (M:MemS):Int:=earT (stp0 S i j) M
def frcG (S:Setup) (i:Int):Int -> Nat -> Int -> MemS -> Int
  | _,0,f,_=>f
  | j,k+1,f,M=>frcG S i (j+1) k (if i=j then f else if earG S i j M < f then earG S i j M else f) M
def trvP (S:Setup) (i c5:Int) (M:MemS):V2:=vadd ⟨(motM S M i).px,(motM S M i).py⟩ (vmuldiv ⟨(motM S M i).vx,(motM S M i).vy⟩ (if w64 (c5+128) < 1024 then w64 (c5+128) else 1024) 1024)
def trvG (S:Setup) (i c5:Int) (M:MemS):MemS:=placeM (stp0 S i 0) (bodyAt S i+1) (bodyAt S i+3) (trvP S i c5 M).y S.box.y0 S.box.y1 (placeM (stp0 S i 0) (bodyAt S i+0) (bodyAt S i+2) (trvP S i c5 M).x S.box.x0 S.box.x1 M)
def mvG (S:Setup) (i:Int) (M:MemS):MemS:=if movP S i then trvG S i (frcG S i 0 S.nb 1024 M) M else M
def mvsG (S:Setup):Int -> Nat -> MemS -> MemS
  | _,0,M=>M
  | i,k+1,M=>mvsG S (i+1) k (mvG S i M)
section
variable {S:Setup} (hV:SetV S)
end
def colG (S:Setup) (M:MemS):MemS:=mvsG S 0 S.nb (if S.nb < 2 then M else rndG S S.rounds.toNat M)
theorem vgetD_ne {l:List Int} {i j:Nat} {v:Int} (h:i ≠ j):(l.set i v).getD j 0=l.getD j 0:=by
  rw [List.getD_eq_getElem?_getD,List.getD_eq_getElem?_getD,List.getElem?_set_ne h]
theorem viniL_low {S:Setup} (hp:0 <= S.players) {j:Nat} (hj:j < 48):∀ i,i <= S.nb -> (iniL S i).getD j 0=0
  | 0,_=>by
    rw [iniL,List.getD_eq_getElem?_getD,List.getElem?_replicate]
    split <;> rfl
  | i+1,hi=>by
    have hb:bodyAt S (i:Int)=48+4 * S.players+8 * (i:Int):=by
      rcases vbodyAt hp (i:Int) with e | ⟨_,_,e⟩
      · unfold bodyAt at e
        rw [if_neg (by omega),if_neg (by omega)] at e;omega
      · exact e
    rw [iniL,vgetD_ne (by omega),vgetD_ne (by omega),vgetD_ne (by omega),vgetD_ne (by omega),vgetD_ne (by omega),vgetD_ne (by omega)]
    exact viniL_low hp hj i (by omega)
structure TE2 (S:Setup) (t:Int) (M:MemS):Prop where
  len:(M.cs.length:Int)=sizeOf S
  z:∀ k:Int,1 <= k -> k <= 10 -> M.get k=0
  t0:M.get 0=t
theorem ini_te2 {S:Setup} (hS:SetV S):TE2 S 0 ⟨iniL S S.nb,[],0⟩:=by
  have hp:=hS.pl
  have hlen:(((⟨iniL S S.nb,[],0⟩:MemS).cs.length:Nat):Int)=sizeOf S:=by
    show ((iniL S S.nb).length:Int)=_
    rw [iniL_len];unfold sizeOf;omega
  have g:∀ k:Int,0 <= k -> k < 48 -> (⟨iniL S S.nb,[],0⟩:MemS).get k=0:=λ k h0 h1=>by
    unfold MemS.get
    split
    · exact viniL_low (by omega) (by omega) S.nb (Nat.le_refl _)
    · rfl
  exact ⟨hlen,λ k h1 h2=>g k (by omega) (by omega),g 0 (by omega) (by omega)⟩
section
variable {g:Gm} (hV:SetV g.S) {ins:Nat -> Inp} (hi:∀ q:Nat,(q:Int) < g.S.players -> g.ins.getD (g.io+q) dI=ins q) (hni:g.S.players <= g.ni)
structure ColR (S:Setup) (N N':MemS):Prop where
  ag:AgD OffC N' (colG S N)
  g1:N'.get 1=6
  g2:N'.get 2=0
  g3:N'.get 3=0
  g5:N'.get 5=0
end
def mnI (a b:Int):Int:=if b < a then b else a
def mxI (a b:Int):Int:=if b > a then b else a
def hullB (a b:Bx):Bx:=⟨mnI a.x0 b.x0,mnI a.y0 b.y0,mxI a.x1 b.x1,mxI a.y1 b.y1⟩
def dMot:Mot:=⟨0,0,0,0,0⟩
def dBx:Bx:=⟨0,0,0,0⟩
def bncV (p v lo hi r:Int):Int:=if clampI p lo hi=p then v else w64 (0 - mulI v r)
def mvMot (S:Setup) (b:Mot) (f:Int):Mot:=⟨clampI (vadd ⟨b.px,b.py⟩ (vmuldiv ⟨b.vx,b.vy⟩ f 1024)).x S.box.x0 S.box.x1,clampI (vadd ⟨b.px,b.py⟩ (vmuldiv ⟨b.vx,b.vy⟩ f 1024)).y S.box.y0 S.box.y1,
  bncV (vadd ⟨b.px,b.py⟩ (vmuldiv ⟨b.vx,b.vy⟩ f 1024)).x b.vx S.box.x0 S.box.x1 S.rest,bncV (vadd ⟨b.px,b.py⟩ (vmuldiv ⟨b.vx,b.vy⟩ f 1024)).y b.vy S.box.y0 S.box.y1 S.rest,b.inv⟩
theorem fdiv8 {x:Int} (h:-16777216 <= x /\ x <= 16777216):fdivI x 8=x / 8:=by
  unfold fdivI
  rw [if_neg (by decide)]
  by_cases hx:0 <= x
  · rw [Int.tdiv_eq_ediv_of_nonneg hx,Int.tmod_eq_emod_of_nonneg hx,if_neg (by omega),w64_id (by omega)]
  · obtain ⟨y,e⟩:∃ y,x=-y:=⟨-x,by omega⟩
    subst e
    rw [Int.neg_tdiv,Int.neg_tmod,Int.tdiv_eq_ediv_of_nonneg (by omega),Int.tmod_eq_emod_of_nonneg (by omega),show w64 (-(y / 8))=-(y / 8) from w64_id (by omega)]
    split
    · rw [w64_id (by omega)];omega
    · omega
theorem part_bd {v k:Int} (hv:-1000000 <= v /\ v <= 1000000) (hk:0 <= k /\ k <= 8):(0 <= v -> 0 <= mulDivI v k 8 /\ mulDivI v k 8 <= v) /\ (v <= 0 -> v <= mulDivI v k 8 /\ mulDivI v k 8 <= 0):=by
  unfold mulDivI
  obtain h | h | h | h | h | h | h | h | h:k=0 \/ k=1 \/ k=2 \/ k=3 \/ k=4 \/ k=5 \/ k=6 \/ k=7 \/ k=8:=by omega
  all_goals subst h;rw [w64_id (by omega),fdiv8 (by omega)];omega
def smS (s:Shp):Prop:=(-100000 <= s.r /\ s.r <= 100000) /\ ∀ i,(-100000 <= (s.poly.getD i ⟨0,0⟩).x /\ (s.poly.getD i ⟨0,0⟩).x <= 100000) /\ (-100000 <= (s.poly.getD i ⟨0,0⟩).y /\ (s.poly.getD i ⟨0,0⟩).y <= 100000)
def bf0 (l:List V2):Nat -> Bx
  | 0=>⟨(l.getD 0 ⟨0,0⟩).x,(l.getD 0 ⟨0,0⟩).y,(l.getD 0 ⟨0,0⟩).x,(l.getD 0 ⟨0,0⟩).y⟩
  | k+1=>bstep (bf0 l k) (l.getD (1+k) ⟨0,0⟩)
def bnd0 (s:Shp):Bx:=if circ s then ⟨-s.r,-s.r,s.r,s.r⟩ else bf0 s.poly (s.poly.length - 1)
def shB (p:V2) (b:Bx):Bx:=⟨p.x+b.x0,p.y+b.y0,p.x+b.x1,p.y+b.y1⟩
def smP (p:V2):Prop:=(-10000000 <= p.x /\ p.x <= 10000000) /\ (-10000000 <= p.y /\ p.y <= 10000000)
theorem vadd_sm {p q:V2} (hp:smP p) (hq:(-10000000 <= q.x /\ q.x <= 10000000) /\ (-10000000 <= q.y /\ q.y <= 10000000)):vadd p q=⟨p.x+q.x,p.y+q.y⟩:=by
  unfold vadd smP at *
  rw [w64_id (by omega),w64_id (by omega)]
theorem bfold_sh {p:V2} (hp:smP p) {l:List V2} (hl:∀ i,(-100000 <= (l.getD i ⟨0,0⟩).x /\ (l.getD i ⟨0,0⟩).x <= 100000) /\ (-100000 <= (l.getD i ⟨0,0⟩).y /\ (l.getD i ⟨0,0⟩).y <= 100000)):∀ k,bfold p l k=shB p (bf0 l k)
  | 0=>by
    have h:=hl 0
    rw [bfold,bf0,vadd_sm hp (by omega)]
    rfl
  | k+1=>by
    have h:=hl (1+k)
    rw [bfold,bf0,bfold_sh hp hl k,vadd_sm hp (by omega)]
    generalize l.getD (1+k) ⟨0,0⟩=c at *
    generalize bf0 l k=b
    unfold bstep shB
    simp only [Bx.mk.injEq]
    refine ⟨?_,?_,?_,?_⟩ <;> (split <;> split <;> omega)
theorem bounds_sh {s:Shp} (hs:smS s) {p:V2} (hp:smP p):bounds s p=shB p (bnd0 s):=by
  unfold bounds bnd0
  by_cases c:circ s
  · rw [if_pos c,if_pos c]
    have h:=hs.1
    unfold smP at hp
    rw [w64_id (by omega),w64_id (by omega),w64_id (by omega),w64_id (by omega)]
    show (⟨p.x - s.r,p.y - s.r,p.x+s.r,p.y+s.r⟩:Bx)=⟨p.x+-s.r,p.y+-s.r,p.x+s.r,p.y+s.r⟩
    rw [Int.sub_eq_add_neg,Int.sub_eq_add_neg]
  · rw [if_neg c,if_neg c]
    exact bfold_sh hp hs.2 _
theorem aside_k {s t:Shp} (hs:smS s) {p v q:V2} (hp:(-2000000 <= p.x /\ p.x <= 2000000) /\ (-2000000 <= p.y /\ p.y <= 2000000)) (hv:(-1000000 <= v.x /\ v.x <= 1000000) /\ (-1000000 <= v.y /\ v.y <= 1000000)) (hq:smP q) (h:¬ ovl (hullB (bounds s p) (bounds s (vadd p v))) (bounds t q)) {k:Int} (hk:0 <= k /\ k <= 8) :
    touchE s p v t q ⟨0,0⟩ k=false:=by
  have m1:=part_bd hv.1 hk
  have m2:=part_bd hv.2 hk
  have m0:mulDivI 0 k 8=0:=by
    unfold mulDivI
    rw [Int.zero_mul]
    rfl
  have eq:afterV q ⟨0,0⟩ k=q:=by
    unfold afterV vmuldiv
    simp only
    rw [m0]
    unfold vadd
    simp only [Int.add_zero]
    unfold smP at hq
    rw [w64_id (by omega),w64_id (by omega)]
  unfold touchE
  rw [eq]
  unfold collideS
  rw [if_neg]
  intro ho
  apply h
  have ev:vadd p v=⟨p.x+v.x,p.y+v.y⟩:=vadd_sm (by unfold smP;omega) (by omega)
  have ea:afterV p v k=⟨p.x+mulDivI v.x k 8,p.y+mulDivI v.y k 8⟩:=by
    unfold afterV vmuldiv
    exact vadd_sm (by unfold smP;omega) (by simp only;omega)
  rw [ea] at ho
  rw [ev]
  rw [bounds_sh hs (by unfold smP;simp only;omega)] at ho
  rw [bounds_sh hs (p:=p) (by unfold smP;omega),bounds_sh hs (by unfold smP;simp only;omega)]
  generalize bounds t q=c at *
  generalize bnd0 s=b at *
  generalize mulDivI v.x k 8=mx at *
  generalize mulDivI v.y k 8=my at *
  obtain ⟨⟨h1,h2⟩,h3,h4⟩:=ho
  unfold shB at h1 h2 h3 h4
  simp only at h1 h2 h3 h4
  unfold ovl meetP hullB shB mnI mxI
  simp only
  refine ⟨⟨?_,?_⟩,?_,?_⟩ <;> (split <;> omega)
theorem earl_free {s t:Shp} {p v q w:V2} (h:∀ k:Int,0 <= k -> k <= 8 -> touchE s p v t q w k=false):∀ (n k:Nat),k+n <= 8 -> earlL s p v t q w n k=1024
  | 0,_,_=>rfl
  | n+1,k,hk=>by
    rw [earlL,h ((k:Int)+1) (by omega) (by omega)]
    simp only [Bool.false_eq_true,if_false]
    exact earl_free h n (k+1) (by omega)
theorem aside_ear {s t:Shp} (hs:smS s) {p v q:V2} (hp:(-2000000 <= p.x /\ p.x <= 2000000) /\ (-2000000 <= p.y /\ p.y <= 2000000)) (hv:(-1000000 <= v.x /\ v.x <= 1000000) /\ (-1000000 <= v.y /\ v.y <= 1000000)) (hq:smP q) (h:¬ ovl (hullB (bounds s p) (bounds s (vadd p v))) (bounds t q)) :
    earlS s p v t q ⟨0,0⟩=1024:=by
  have hk:=λ (k:Int) h0 h8=>aside_k (t:=t) hs hp hv hq h (k:=k) ⟨h0,h8⟩
  unfold earlS
  rw [hk 0 (by decide) (by decide)]
  simp only [Bool.false_eq_true,if_false]
  exact earl_free hk 8 0 (by omega)
theorem rnd_same {S:Setup} {M:MemS} (h:outG S 0 S.nb M=M):∀ k,rndG S k M=M
  | 0=>rfl
  | k+1=>by rw [rndG,h,rnd_same h k]
structure BoxV (S:Setup):Prop where
  re:0 <= S.rest /\ S.rest <= 1024
  bx:(-1048576 <= S.box.x0 /\ S.box.x0 <= S.box.x1 /\ S.box.x1 <= 1048576) /\ (-1048576 <= S.box.y0 /\ S.box.y0 <= S.box.y1 /\ S.box.y1 <= 1048576)
def BiA (S:Setup) (M:MemS):Prop:=∀ k:Int,0 <= k -> k < S.nb -> (-1048576 <= M.get (bodyAt S k+0) /\ M.get (bodyAt S k+0) <= 1048576) /\ (-1048576 <= M.get (bodyAt S k+1) /\ M.get (bodyAt S k+1) <= 1048576) /\ (-16384 <= M.get (bodyAt S k+2) /\ M.get (bodyAt S k+2) <= 16384) /\ (-16384 <= M.get (bodyAt S k+3) /\ M.get (bodyAt S k+3) <= 16384)
theorem bat {S:Setup} {k:Int} (h0:0 <= k) (h1:k < S.nb):bodyAt S k=48+4 * S.players+8 * k:=by
  unfold bodyAt;rw [if_neg (by omega),if_neg (by omega)]
section
variable {S:Setup}
theorem BiA.low {M:MemS} (h:BiA S M) {i:Int} (hi:i < 48+4 * S.players) (v:Int):BiA S (M.set i v):=λ k h0 h1=>by
  have e:=bat h0 h1
  rw [vget_ne (by omega),vget_ne (by omega),vget_ne (by omega),vget_ne (by omega)]
  exact h k h0 h1
theorem get_or {M:MemS} {i j v:Int} {Q:Int -> Prop} (hv:i=j -> Q v) (h:Q (M.get j)):Q ((M.set i v).get j):=by
  by_cases e:j=i
  · subst e
    by_cases c:0 <= j /\ j < M.cs.length
    · rw [vget_eq c];exact hv rfl
    · have:M.set j v=M:=by unfold MemS.set;rw [if_neg c]
      rw [this];exact h
  · rw [vget_ne e];exact h
theorem BiA.bod {M:MemS} (h:BiA S M) {k c v:Int} (h0:0 <= k) (h1:k < S.nb) (hc:0 <= c /\ c < 8) (hv:(c < 2 -> -1048576 <= v /\ v <= 1048576) /\ (2 <= c -> c < 4 -> -16384 <= v /\ v <= 16384)):BiA S (M.set (bodyAt S k+c) v):=λ q q0 q1=>by
  have e:=bat h0 h1
  have e2:=bat q0 q1
  obtain ⟨a1,a2,a3,a4⟩:=h q q0 q1
  refine ⟨get_or (Q:=λ x=>-1048576 <= x /\ x <= 1048576) (λ e3=>hv.1 ?_) a1,get_or (Q:=λ x=>-1048576 <= x /\ x <= 1048576) (λ e3=>hv.1 ?_) a2,get_or (Q:=λ x=>-16384 <= x /\ x <= 16384) (λ e3=>hv.2 ?_ ?_) a3,get_or (Q:=λ x=>-16384 <= x /\ x <= 16384) (λ e3=>hv.2 ?_ ?_) a4⟩ <;> omega
theorem bi_ite {c:Prop} [Decidable c] {A B:MemS} (h1:c -> BiA S A) (h2:¬ c -> BiA S B):BiA S (if c then A else B):=by
  split
  · exact h1 (by assumption)
  · exact h2 (by assumption)
theorem bi_vite {c:Prop} [Decidable c] {A B:VR} (h1:c -> BiA S A.M) (h2:¬ c -> BiA S B.M):BiA S (if c then A else B).M:=by
  split
  · exact h1 (by assumption)
  · exact h2 (by assumption)
theorem BiA.beg {M:MemS} (hp:0 <= S.players) (h:BiA S M) (t:Stp) (a b:Int):BiA S (beginM t a b M):=by
  unfold beginM
  exact ((h.low (by omega) _).low (by omega) _).low (by omega) _
theorem clampI_bd (n:Int) {lo hi:Int} (h:lo <= hi):lo <= clampI n lo hi /\ clampI n lo hi <= hi:=by
  unfold clampI
  split
  · omega
  · split <;> omega
theorem lim_bd {n b:Int}:(n < 2 -> 0 <= n -> -1048576 <= limF n b /\ limF n b <= 1048576) /\ (2 <= n -> n < 4 -> -16384 <= limF n b /\ limF n b <= 16384):=by
  have h1:=clampI_bd b (lo:=-1048576) (hi:=1048576) (by decide)
  have h2:=clampI_bd b (lo:=-16384) (hi:=16384) (by decide)
  unfold limF
  constructor
  · intro a b
    rcases (show n=0 \/ n=1 by omega) with rfl | rfl <;> simpa using h1
  · intro a b
    rcases (show n=2 \/ n=3 by omega) with rfl | rfl <;> simpa using h2
theorem bi_exec (hV:SetV S) {M:MemS} {op n a b:Int} (hn:eN op=0 \/ (0 <= n /\ n < eN op)) (h:BiA S M):BiA S (execV S op n a b M).M:=by
  have hP:=hV.pl
  have hN:=hV.nb
  unfold execV
  iterate 14 (refine bi_vite (λ _=>h) λ _=>?_)
  refine bi_vite (λ e=>?_) λ _=>?_
  · subst e
    have h16:0 <= n /\ n < 16:=by
      rcases hn with h | h
      · exact absurd h (by decide)
      · exact h
    rw [w64_id (by omega)]
    exact h.low (by omega) _
  refine bi_vite (λ _=>h) λ _=>?_
  refine bi_vite (λ e=>?_) λ _=>?_
  · subst e
    have h8:0 <= n /\ n < 8:=by
      rcases hn with h | h
      · exact absurd h (by decide)
      · exact h
    refine bi_ite (λ hb=>?_) λ _=>h
    rcases vbodyAt (S:=S) (by omega) a with e | ⟨b0,b1,e⟩
    · omega
    · rw [w64_id (by omega)]
      exact h.bod b0 b1 h8 ⟨λ h2=>lim_bd.1 h2 h8.1,lim_bd.2⟩
  refine bi_vite (λ _=>h.low (by omega) _) λ _=>?_
  refine bi_vite (λ _=>bi_ite (λ _=>h.low (by omega) _) λ _=>h) λ _=>?_
  refine bi_vite (λ _=>?_) λ _=>h
  unfold emitV
  exact bi_vite (λ _=>h) λ _=>(h.low (by omega) _).low (by omega) _
theorem bi_step (hV:SetV S) {M:MemS} {code:List Ins} {n:Nat} (h:BiA S M):BiA S (stepV S code n M).M:=by
  have hP:=hV.pl
  unfold stepV
  refine bi_vite (λ hr=>?_) λ _=>h
  obtain ⟨r1,r2,r3,r4⟩:=hr
  obtain ⟨x1,x2,x3,x4,x5⟩:=exeOk_of r4
  have hb:=e_bd x1
  have h1:BiA S (memP (codeA code M).op (M.get 7) (M.get 6) (M.get 8) M):=by
    unfold memP
    exact bi_ite (λ _=>(h.low (by omega) _).low (by omega) _) λ _=>((h.low (by omega) _).low (by omega) _).low (by omega) _
  have h2:=bi_exec hV (op:=(codeA code M).op) (n:=(codeA code M).n) (a:=popA (codeA code M).op (M.get 7) M) (b:=popB (codeA code M).op (M.get 7) M) x5 h1
  unfold pushV stepI
  refine bi_vite (λ _=>?_) λ _=>h2
  refine BiA.low h2 ?_ _
  rw [w64_id (x:=16+M.get 7) (by omega),w64_id (by omega)]
  omega
theorem bi_start (hP:0 <= S.players) {M:MemS} (h:BiA S M) (e f a b:Int):BiA S (startV e f a b M):=by
  unfold startV
  exact bi_ite (λ _=>h) λ _=>((((h.low (by omega) _).low (by omega) _).low (by omega) _).low (by omega) _).low (by omega) _
theorem bi_run (hV:SetV S) {M:MemS} {t:Stp} (ht:t.S=S) (h:BiA S M) (e a b:Int):BiA S (runV e t a b M).M:=by
  have hP:=hV.pl
  subst ht
  unfold runV
  exact bi_vite (λ _=>bi_vite (λ _=>bi_start (by omega) h _ _ _ _) λ _=>(bi_start (by omega) h _ _ _ _).low (by omega) _) λ _=>bi_step hV h
theorem bi_turn (hV:SetV S) {M:MemS} {r:VR} (h:BiA S M) (hr:BiA S r.M) (over cause:Bool) (t:Stp):BiA S (turnV r over t cause M).M:=by
  have hP:=hV.pl
  unfold turnV
  exact bi_vite (λ _=>bi_vite (λ _=>bi_vite (λ _=>hr.low (by omega) _) λ _=>hr) λ _=>h.low (by omega) _) λ _=>bi_vite (λ _=>(hr.low (by omega) _).low (by omega) _) λ _=>hr
theorem bi_input (hV:SetV S) {M:MemS} {t:Stp} (ht:t.S=S) (h:BiA S M):BiA S (inputM t M):=by
  have hP:=hV.pl
  subst ht
  unfold inputM
  have h1:BiA t.S (inputA t M):=by
    unfold inputA
    exact bi_ite (λ _=>(h.low (by omega) _).low (by omega) _) λ _=>h
  generalize inputA t M=A at h1
  have h2:BiA t.S (inputB t A):=by
    unfold inputB
    refine bi_ite (λ e=>bi_ite (λ _=>?_) λ _=>h1) λ _=>h1
    rcases vplayerAt (S:=t.S) t.i with ⟨e2,_⟩ | ⟨e1,e2,e3⟩
    · omega
    · exact ((h1.low (by omega) _).low (by omega) _).low (by omega) _
  generalize inputB t A=B at h2
  unfold inputC
  exact bi_ite (λ _=>h2.low (by omega) _) λ _=>h2.beg (by omega) t _ _
theorem bi_setMot {M:MemS} {t:Stp} (ht:t.S=S) (h:BiA S M) {k:Int} (h0:0 <= k) (h1:k < S.nb) {m:Mot} (hm:(-1048576 <= m.px /\ m.px <= 1048576) /\ (-1048576 <= m.py /\ m.py <= 1048576) /\ (-16384 <= m.vx /\ m.vx <= 16384) /\ (-16384 <= m.vy /\ m.vy <= 16384)):BiA S (setMotM t k m M):=by
  obtain ⟨m1,m2,m3,m4⟩:=hm
  unfold setMotM
  rw [ht]
  exact (((h.bod h0 h1 (by omega) ⟨λ _=>m1,λ _=>by omega⟩).bod h0 h1 (by omega) ⟨λ _=>m2,λ _=>by omega⟩).bod h0 h1 (by omega) ⟨λ _=>by omega,λ _ _=>m3⟩).bod h0 h1 (by omega) ⟨λ _=>by omega,λ _ _=>m4⟩
theorem lim_ok (m:Mot):(-1048576 <= (limM m).px /\ (limM m).px <= 1048576) /\ (-1048576 <= (limM m).py /\ (limM m).py <= 1048576) /\ (-16384 <= (limM m).vx /\ (limM m).vx <= 16384) /\ (-16384 <= (limM m).vy /\ (limM m).vy <= 16384) :=
  ⟨clampI_bd m.px (lo:=-1048576) (by decide),clampI_bd m.py (lo:=-1048576) (by decide),clampI_bd m.vx (lo:=-16384) (by decide),clampI_bd m.vy (lo:=-16384) (by decide)⟩
theorem bi_mot {M:MemS} (h:BiA S M) {k:Int} (h0:0 <= k) (h1:k < S.nb):(-1048576 <= (motM S M k).px /\ (motM S M k).px <= 1048576) /\ (-1048576 <= (motM S M k).py /\ (motM S M k).py <= 1048576) /\ (-16384 <= (motM S M k).vx /\ (motM S M k).vx <= 16384) /\ (-16384 <= (motM S M k).vy /\ (motM S M k).vy <= 16384):=h k h0 h1
theorem bi_con (i j:Int) {M:MemS} (h:BiA S M):BiA S (conG S i j M):=by
  unfold conG touchF
  refine bi_ite (λ hi=>bi_ite (λ hj=>bi_ite (λ _=>?_) λ _=>h) λ _=>h) λ _=>h
  have hi':0 <= i /\ i < (S.nb:Int):=hi
  have hj':0 <= j /\ j < (S.nb:Int):=hj
  have hr:((-1048576 <= (resT (stp0 S i j) M).1.px /\ (resT (stp0 S i j) M).1.px <= 1048576) /\ (-1048576 <= (resT (stp0 S i j) M).1.py /\ (resT (stp0 S i j) M).1.py <= 1048576) /\ (-16384 <= (resT (stp0 S i j) M).1.vx /\ (resT (stp0 S i j) M).1.vx <= 16384) /\ (-16384 <= (resT (stp0 S i j) M).1.vy /\ (resT (stp0 S i j) M).1.vy <= 16384)) /\
      ((-1048576 <= (resT (stp0 S i j) M).2.px /\ (resT (stp0 S i j) M).2.px <= 1048576) /\ (-1048576 <= (resT (stp0 S i j) M).2.py /\ (resT (stp0 S i j) M).2.py <= 1048576) /\ (-16384 <= (resT (stp0 S i j) M).2.vx /\ (resT (stp0 S i j) M).2.vx <= 16384) /\ (-16384 <= (resT (stp0 S i j) M).2.vy /\ (resT (stp0 S i j) M).2.vy <= 16384)):=by
    unfold resT resolveS
    split
    · exact ⟨bi_mot h hi'.1 hi'.2,bi_mot h hj'.1 hj'.2⟩
    · exact ⟨lim_ok _,lim_ok _⟩
  unfold touchSet
  generalize resT (stp0 S i j) M=r at *
  exact ((bi_setMot (t:=stp0 S i j) rfl (bi_setMot (t:=stp0 S i j) rfl h hi'.1 hi'.2 hr.1) hj'.1 hj'.2 hr.2).bod hi'.1 hi'.2 (by omega) ⟨λ _=>by omega,λ _ _=>by omega⟩).bod hj'.1 hj'.2 (by omega) ⟨λ _=>by omega,λ _ _=>by omega⟩
theorem mulI_bd (hB:BoxV S) {v:Int} (hv:-16384 <= v /\ v <= 16384):-16384 <= w64 (0 - mulI v S.rest) /\ w64 (0 - mulI v S.rest) <= 16384:=by
  have hr:=hB.re
  have h1:v * S.rest <= 16384 * S.rest:=Int.mul_le_mul_of_nonneg_right hv.2 hr.1
  have h2:-16384 * S.rest <= v * S.rest:=Int.mul_le_mul_of_nonneg_right hv.1 hr.1
  have h3:-16384 <= mulI v S.rest /\ mulI v S.rest <= 16384:=by
    unfold mulI
    rw [w64_id (by omega)]
    generalize v * S.rest=x at *
    unfold fdivI
    rw [if_neg (by decide)]
    by_cases hx:0 <= x
    · rw [Int.tdiv_eq_ediv_of_nonneg hx,Int.tmod_eq_emod_of_nonneg hx,if_neg (by omega),w64_id (by omega)]
      omega
    · obtain ⟨y,e⟩:∃ y,x=-y:=⟨-x,by omega⟩
      subst e
      rw [Int.neg_tdiv,Int.neg_tmod,Int.tdiv_eq_ediv_of_nonneg (by omega),Int.tmod_eq_emod_of_nonneg (by omega),show w64 (-(y / 1024))=-(y / 1024) from w64_id (by omega)]
      split
      · rw [w64_id (by omega)];omega
      · omega
  rw [w64_id (by omega)]
  omega
theorem bi_trv (hB:BoxV S) {i:Int} (hi:0 <= i /\ i < S.nb) (c5:Int) {M:MemS} (h:BiA S M):BiA S (trvG S i c5 M):=by
  have key:∀ {A:MemS} (c pos lo hi':Int),BiA S A -> c=0 \/ c=1 -> -1048576 <= lo -> lo <= hi' -> hi' <= 1048576 -> BiA S (placeM (stp0 S i 0) (bodyAt S i+c) (bodyAt S i+(c+2)) pos lo hi' A):=λ {A} c pos lo hi' hA hc l1 l2 l3=>by
    have hcl:=clampI_bd pos l2
    have h1:BiA S (A.set (bodyAt S i+c) (clampI pos lo hi')):=hA.bod hi.1 hi.2 (by omega) ⟨λ _=>by omega,λ _=>by omega⟩
    unfold placeM
    refine bi_ite (λ _=>h1) λ _=>?_
    refine h1.bod hi.1 hi.2 (by omega) ⟨λ _=>by omega,λ _ _=>mulI_bd hB ?_⟩
    obtain ⟨_,_,a3,a4⟩:=h1 i hi.1 hi.2
    rcases hc with rfl | rfl
    · exact a3
    · exact a4
  have k1:=key 0 (trvP S i c5 M).x S.box.x0 S.box.x1 h (.inl rfl) hB.bx.1.1 hB.bx.1.2.1 hB.bx.1.2.2
  have k2:=key 1 (trvP S i c5 M).y S.box.y0 S.box.y1 k1 (.inr rfl) hB.bx.2.1 hB.bx.2.2.1 hB.bx.2.2.2
  exact k2
theorem bi_mv (hB:BoxV S) {i:Int} {M:MemS} (h:BiA S M):BiA S (mvG S i M):=by
  unfold mvG
  exact bi_ite (λ hm=>bi_trv hB hm.has _ h) λ _=>h
theorem bi_force (hV:SetV S) {t:Stp} (ht:t.S=S) {M:MemS} (h:BiA S M):BiA S (forceM t M):=by
  have hP:=hV.pl
  subst ht
  unfold forceM
  have h1:BiA t.S (forceA t M):=by
    unfold forceA
    refine bi_ite (λ e=>?_) λ _=>h
    rcases vbodyAt (S:=t.S) (by omega) t.i with e | ⟨b0,b1,_⟩
    · omega
    · exact h.bod b0 b1 (by omega) ⟨λ _=>by omega,λ _ _=>by omega⟩
  generalize forceA t M=A at h1
  have h2:BiA t.S (forceB t A):=by
    unfold forceB
    refine bi_ite (λ e=>?_) λ _=>h1
    exact (h1.bod e.1.1 e.1.2 (by omega) ⟨λ _=>by omega,λ _ _=>clampI_bd _ (lo:=-16384) (by decide)⟩).bod e.1.1 e.1.2 (by omega) ⟨λ _=>by omega,λ _ _=>clampI_bd _ (lo:=-16384) (by decide)⟩
  generalize forceB t A=B at h2
  unfold forceC
  exact bi_ite (λ _=>h2.low (by omega) _) λ _=>(h2.beg (by omega) t _ _).low (by omega) _
theorem bi_zero (hP:0 <= S.players) {M:MemS} (h:BiA S M):∀ n,n <= 10 -> BiA S (zeroTo M n)
  | 0,_=>h
  | n+1,hn=>by
    rw [zeroTo]
    exact (bi_zero hP h n (by omega)).low (by omega) _
theorem bi_rest (hV:SetV S) {t:Stp} (ht:t.S=S) {M:MemS} (h:BiA S M):BiA S (restM t M):=by
  have hP:=hV.pl
  subst ht
  unfold restM
  have h1:BiA t.S (restA t M):=by
    unfold restA
    refine bi_ite (λ e=>?_) λ _=>h
    rcases vbodyAt (S:=t.S) (by omega) t.i with e | ⟨b0,b1,_⟩
    · omega
    · exact h.bod b0 b1 (by omega) ⟨λ _=>by omega,λ _ _=>by omega⟩
  generalize restA t M=A at h1
  unfold restC
  exact bi_ite (λ _=>h1.low (by omega) _) λ _=>bi_zero (by omega) (h1.low (by omega) _) 10 (Nat.le_refl _)
theorem bi_tr {g:Gm} (hV:SetV g.S) {M:MemS} (h:BiA g.S M) (h4:M.get 1 ≠ 4) (h5:M.get 1 ≠ 5):BiA g.S (trM g M):=by
  have hP:=hV.pl
  unfold trM trV
  refine bi_vite (λ _=>bi_input hV (t:=g.step M) rfl h) λ _=>bi_vite (λ _=>?_) λ _=>bi_vite (λ _=>?_) λ _=>bi_vite (λ _=>bi_force hV (t:=g.step M) rfl h) λ _=>bi_vite (λ e=>absurd e h4) λ _=>bi_vite (λ e=>absurd e h5) λ _=>bi_vite (λ _=>?_) λ _=>bi_rest hV (t:=g.step M) rfl h
  · unfold actV
    exact bi_vite (λ _=>h.beg (by omega) (g.step M) _ _) λ _=>bi_turn hV h (bi_run hV (t:=g.step M) rfl h _ _ _) _ _ _
  · have hr:=bi_run hV (t:=g.step M) rfl h (g.step M).e1 0 0
    unfold tickV
    exact bi_vite (λ _=>hr.beg (by omega) (g.step M) _ _) λ _=>hr
  · unfold hitV
    exact bi_vite (λ _=>h.beg (by omega) (g.step M) _ _) λ _=>bi_turn hV h (bi_run hV (t:=g.step M) rfl h _ _ _) _ _ _
theorem bi_inn (i:Int):∀ (k:Nat) (j:Int) {M:MemS},BiA S M -> BiA S (innG S i j k M)
  | 0,_,_,h=>h
  | k+1,j,_,h=>bi_inn i k (j+1) (bi_con i j h)
theorem bi_out:∀ (k:Nat) (i:Int) {M:MemS},BiA S M -> BiA S (outG S i k M)
  | 0,_,_,h=>h
  | k+1,i,_,h=>bi_out k (i+1) (bi_inn i k (i+1) h)
theorem bi_rnd:∀ (k:Nat) {M:MemS},BiA S M -> BiA S (rndG S k M)
  | 0,_,h=>h
  | k+1,_,h=>bi_rnd k (bi_out S.nb 0 h)
theorem bi_mvs (hB:BoxV S):∀ (k:Nat) (i:Int) {M:MemS},BiA S M -> BiA S (mvsG S i k M)
  | 0,_,_,h=>h
  | k+1,i,_,h=>bi_mvs hB k (i+1) (bi_mv hB h)
theorem bi_col (hB:BoxV S) {M:MemS} (h:BiA S M):BiA S (colG S M):=by
  unfold colG
  exact bi_mvs hB _ _ (bi_ite (λ _=>h) λ _=>bi_rnd _ h)
theorem bi_off {A B:MemS} (hP:0 <= S.players) (h:BiA S B) (ha:AgD OffC A B):BiA S A:=λ k h0 h1=>by
  have e:=bat h0 h1
  rw [ha.2 _ (by unfold OffC;omega),ha.2 _ (by unfold OffC;omega),ha.2 _ (by unfold OffC;omega),ha.2 _ (by unfold OffC;omega)]
  exact h k h0 h1
end
end Go.Proofs.YthoijjeddhfcnaaGreat
