import Derived.Test.YtjokannbjmndfaaGreatDoorZ38
import Derived.Test.YtjokannbjmndfaaGreatDoorZ07
import Derived.Test.YtjokannbjmndfaaGreatDoorZ35
import Derived.Test.YtjokannbjmndfaaGreatDoorZ06
set_option linter.all false
set_option maxHeartbeats 4000000
set_option maxRecDepth 100000
namespace Go.Proofs.YtjokannbjmndfaaGreatDoor
open Go.RowKit
variable {F:HL} {M:MemS} {N Vp b bp i p:Nat} {O:Obj} {P:Program} {S:Setup} {et kt t:TypeId} {ik:IntKind} {k:Int} {loc:Int->Option Inp} {oo:Option Oper} {r:List Inp} {rows xss:List (List Inp)} {rs:List Rw} {s:Cfg} {w:World}
def J2(tk:Int)(j1 j2 i:Nat):Nat×Int:=if tk>(i:Int) then (j1,0) else (j2,1)
theorem DV{tk:Int}{j1 j2:Nat}{TB:HL}(hB:Book2 tk j1 j2 bp TB)(hT:∀x∈TB,x∈F)(Z0:j1<5)(X5:j2<5){t:Nat}{v:Int}(e:v=(t:Int)):(J2 tk j1 j2 t).1<5/\AtOk F bp v (J2 tk j1 j2 t):=by
 subst e;refine⟨?_,hB.at hT Z0 X5 _ (by omega)⟩;unfold J2;split
 ·exact Z0
 ·exact X5
theorem TE2.cs{t:Int}{N:MemS}(h:M.cs=N.cs)(hT:TE2 S t M):TE2 S t N:=by
 have hg:∀k,N.get k=M.get k:=λ k=>by unfold MemS.get;rw[h]
 exact⟨by rw[<- h];exact hT.len,λ k h1 h2=>by rw[hg];exact hT.z k h1 h2,by rw[hg];exact hT.t0⟩
theorem RwsIn.take(h:RwsIn F rs xss)(k:Nat):RwsIn F (rs.take k) (xss.take k):=by
 refine⟨by rw[aaN,aaN,h.len],λ i hi=>?_⟩;rw[aaN] at hi;have e1:(xss.take k).getD i []=xss.getD i []:=by rw[aaG,aaG,abn,if_pos (by omega)]
 have e2:(rs.take k).getD i kG.dflt=rs.getD i kG.dflt:=by rw[aaG,aaG,abn,if_pos (by omega)]
 rw[e1,e2];exact h.row i (by omega)
theorem RwsIn.drop(h:RwsIn F rs xss)(k:Nat):RwsIn F (rs.drop k) (xss.drop k):=by
 refine⟨by rw[aaY,aaY,h.len],λ i hi=>?_⟩;rw[aaY] at hi;have e1:(xss.drop k).getD i []=xss.getD (k+i) []:=by rw[aaG,aaG,abi]
 have e2:(rs.drop k).getD i kG.dflt=rs.getD (k+i) kG.dflt:=by rw[aaG,aaG,abi]
 rw[e1,e2];exact h.row (k+i) (by omega)
abbrev tp(tk:Int)(j1 j2 t:Nat):Nat->Nat×Int:=λ i=>J2 tk j1 j2 (t+i)
section
variable {tk:Int} {S S1 S2:Setup} {rs_:List Bx} {ds_:List Dr} {bp gb n cap k t j1 j2:Nat} {A:Option Addr} {rs:List Rw} {xss:List (List Inp)} {M R:MemS} {G0 F TB:HL}
end
def Setup.std(S:Setup):Setup:={ S with bo:=0,bods:=lE S }
theorem f6(S:Setup):SetEq S S.std:=⟨⟨rfl,rfl,rfl,rfl,rfl,rfl,rfl,rfl,rfl,rfl,rfl,rfl⟩,λ k hk=>⟨(S.body k).sh.A,(S.body k).sh.cap,by
 show (lE S).getD (0+k) dB=_;rw[abP,l8 hk];rfl⟩,rfl,jT S⟩
def WS(S:Setup)(J:Nat->Nat×Int)(xss:List (List Inp))(i:Nat):List Int:=(kH (rG S.std J xss) ⟨bz S S.nb,[],0⟩ i).cs
theorem SetEq.refl0{S2:Setup}(h:SetEq S S2)(J:Nat->Nat×Int)(xss:List (List Inp)):∀k,GEq (rG S.std J xss k) (rG S2 J xss k):=KC (f6 S) h J xss
section
variable {S S2:Setup} {J:Nat->Nat×Int} {xss:List (List Inp)} {n:Nat}
theorem Oy(hV:SetV S)(he:SetEq S S2)(hn:n<=50)(Uh:∀i,i<n->RowOk S.players (xss.getD i []))(hi:i<=n):TE2 S2 (i:Int) ⟨WS S J xss i,[],0⟩:=by
 have h:=zR (he.setV hV) (sV hV he) (xss:=xss) J hn (λ i hi=>by rw[he.pl];exact Uh i hi) i hi;exact TE2.cs (show (kH (rG S2 J xss) _ i).cs=(⟨WS S J xss i,[],0⟩:MemS).cs by rw[<- sU (he.refl0 J xss)];rfl) h
theorem Sh(hV:SetV S)(he:SetEq S S2)(hn:n<=50)(Uh:∀i,i<n->RowOk S.players (xss.getD i []))(hi:i<n):TkOk S2 (J i) (xss.getD i []) ⟨WS S J xss i,[],0⟩:=by
 have h:=Ou (he.setV hV) (sV hV he) (xss:=xss) J hn (λ i hi=>by rw[he.pl];exact Uh i hi) hi;exact TkOk.cs (show (kH (rG S2 J xss) _ i).cs=(⟨WS S J xss i,[],0⟩:MemS).cs by rw[<- sU (he.refl0 J xss)];rfl) h
theorem Nm(he:SetEq S S2)(i:Nat):WS S J xss (i+1)=(iK (mu S2 (J i) (xss.getD i [])) ⟨WS S J xss i,[],0⟩).cs:=by
 unfold WS;rw[kH,BA (he.refl0 J xss i)];exact BC rfl
theorem Qb(hV:SetV S)(he:SetEq S S2)(hn:n<=50)(Uh:∀i,i<n->RowOk S.players (xss.getD i []))(hi:i<=n):((WS S J xss i).length:Int)=sizeOf S:=by
 have h:=(Oy (J:=J) hV he hn Uh hi).len;rw[he.size] at h;exact h
theorem pS{α:Type}{l:List α}(h:i<l.length)(d:α):l.take (i+1)=l.take i++[l.getD i d]:=by
 rw[aeq,aa1 h,aaG,aa1 h];rfl
end
theorem DW{G G':Nat->Gm}{M:MemS}:∀k,(∀i,i<k->G i=G' i)->kH G M k=kH G' M k
 |0,_=>rfl
 |k+1,h=>by rw[kH,kH,DW k λ i hi=>h i (by omega),h k (by omega)]
theorem DX(S:Setup)(J:Nat->Nat×Int)(xss:List (List Inp))(k:Nat):WS S J (xss.take k) k=WS S J xss k:=by
 unfold WS;refine congrArg MemS.cs (DW k λ i hi=>?_);show mu _ _ _=mu _ _ _;rw[show (xss.take k).getD i []=xss.getD i [] by rw[aaG,aaG,abn,if_pos hi]]
def wV(pl:Nat)(rows:List (List Inp)):List Inp:=match rows.getLast? with
 |none=>List.replicate pl dI
 |some r=>r.map j7
def ga(pl Vp:Nat)(rows:List (List Inp))(loc:Int->Option Inp)(t:Nat):List Inp :=
 if t<rows.length then rows.getD t [] else match loc (t:Int) with
 |none=>wV pl rows
 |some x=>(wV pl rows).set Vp x
theorem Gc:fy dI:=by decide
theorem KH{x:Inp}(h:fy x):fy (j7 x):=by
 obtain⟨h1,h2,h3⟩:=h;exact⟨h1,h2,by show ¬ (0:Int)<0;decide,by show ¬ (0:Int)>3;decide⟩
theorem sW{pl:Int}(h1:(r.length:Int)=pl)(h2:∀x∈r,fy x):RowOk pl r:=⟨h1,λ k hk=>h2 _ (iI hk _)⟩
theorem RowOk.mem{pl:Int}(h:RowOk pl r):∀x∈r,fy x:=λ x hx=>by
 obtain⟨i,hi,rfl⟩:=ae2.1 hx;have:=h.2 i hi;rwa [aaG,aa1 hi] at this
theorem DY{pl:Nat}(h:∀r∈rows,RowOk pl r):RowOk pl (wV pl rows):=by
 unfold wV;split
 ·exact sW (by simp) (λ x hx=>by rw[(List.mem_replicate.1 hx).2];exact Gc)
 ·next r hr=>
  have h1:=h r (List.mem_of_getLast? hr);refine sW (by rw[acD];exact h1.1) λ x hx=>?_;obtain⟨y,hy,rfl⟩:=abY.1 hx;exact KH (h1.mem y hy)
theorem wW{pl:Nat}(h:∀r∈rows,RowOk pl r)(hk:∀t x,loc t=some x->fy x)(t:Nat):RowOk pl (ga pl Vp rows loc t):=by
 unfold ga;split
 ·next ht=>exact h _ (iI ht _)
 ·split
  ·exact DY h
  ·next x hx=>
   have hb:=DY h;refine sW (by rw[ack];exact hb.1) λ y hy=>?_;rcases List.mem_or_eq_of_mem_set hy with h1|rfl
   ·exact hb.mem y h1
   ·exact hk _ _ hx
theorem pT{pl:Nat}{t:Nat}(h:t<rows.length):rows[t]?=some (ga pl Vp rows loc t):=by
 unfold ga;rw[if_pos h,aaG,aa1 h];rfl
def gP(S:Setup)(J:Nat->Nat×Int):Nat->List Inp->Gm:=λ t xs=>mu S.std (J t) xs
theorem Ck(S:Setup)(J:Nat->Nat×Int)(V:List (List Inp)):∀n,n<=V.length->Cg (gP S J) 0 (bz S S.nb) (V.take n)=WS S J V n
 |0,_=>rfl
 |n+1,h=>by
  have hl:(V.take n).length=n:=by rw[aaN];omega
  rw[pS (by omega) [],sP,hl,Ck S J V n (by omega),Nm (f6 S) n,abP];rfl
theorem Cm(S:Setup)(J:Nat->Nat×Int)(V:List (List Inp)):Cg (gP S J) 0 (bz S S.nb) V=WS S J V V.length:=by
 have h:=Ck S J V V.length (aaI _);rwa [ac8] at h
theorem sX(S:Setup)(J:Nat->Nat×Int)(V:List (List Inp)):∀n,n<=V.length->(xp (gP S J) 0 (bz S S.nb) (V.take n)).flatten=plE (rG S.std J V) ⟨bz S S.nb,[],0⟩ n
 |0,_=>rfl
 |n+1,h=>by
  have hl:(V.take n).length=n:=by rw[aaN];omega
  rw[pS (by omega) [],sQ,acT,sX S J V n (by omega),hl,Ck S J V n (by omega),abP,plE];congr 1;simp only[abe,aeZ,acm];exact wl rfl
section
variable {ρ:Type} {g:Nat->ρ->Gm} {c0:List Int} {w m:Nat} {P:PS ρ} {V:List ρ}
theorem PInv.far(h:PInv g c0 w P V m):V.length<=m+w:=by
 have h1:=h.room;rcases h.ring with ⟨_,e⟩|⟨e,h2⟩
 ·rw[e];simp
 ·have h3:=h.back e;omega
theorem PInv.len_cs(h:PInv g c0 w P V m):P.effs.length=V.length:=by rw[h.effs,wQ]
end
section
variable {S S2:Setup} {J:Nat->Nat×Int} {w m:Nat} {P:PS (List Inp)} {V:List (List Inp)}
theorem PInv.ws(h:PInv (gP S J) (bz S S.nb) w P V m):P.M.cs=(⟨WS S J V V.length,[],0⟩:MemS).cs:=by rw[h.cs,Cm]
theorem PInv.te(h:PInv (gP S J) (bz S S.nb) w P V m)(hV:SetV S)(he:SetEq S S2)(hn:V.length<=50)(hr:∀r∈V,RowOk S.players r):TE2 S2 (V.length:Int) P.M :=
 TE2.cs h.ws.symm (Oy hV he (n:=V.length) hn (λ i hi=>hr _ (iI hi _)) (aaI _))
theorem DZ(r:List Inp)(hi:i<=V.length):WS S J (V++[r]) i=WS S J V i:=by
 rw[<- DX S J (V++[r]) i,abs hi,DX]
theorem PInv.tk(h:PInv (gP S J) (bz S S.nb) w P V m)(hV:SetV S)(he:SetEq S S2)(hn:V.length<50)(hr:∀r∈V,RowOk S.players r)(h1:RowOk S.players r):TkOk S2 (J V.length) r P.M:=by
 have h2:=Sh (J:=J) (xss:=V++[r]) hV he (n:=V.length+1) (by omega) (λ i hi=>by
  refine(show ∀x∈V++[r],RowOk S.players x from λ x hx=>?_) _ (iI (by simpa using hi) _);rcases np.1 hx with hx|hx
  ·exact hr x hx
  ·rw[eb.1 hx];exact h1) (i:=V.length) (by omega)
 rw[DZ r (aaI _),gA,if_neg (by omega),if_pos rfl] at h2;exact h2.cs h.ws.symm
theorem Nn(he:SetEq S S2)(t:Nat)(r:List Inp)(M:MemS):iK (mu S2 (J t) r) M=iK (gP S J t r) M:=BA (wU (he.nm2 (f6 S))) M
theorem Np(he:SetEq S S2)(t:Nat)(r:List Inp)(M:MemS):l7 (mu S2 (J t) r) M=l7 (gP S J t r) M:=Iq (wU (he.nm2 (f6 S))) M
end
theorem Sp.fr{f:FuncId}{args:Array Value}{H H2 X:HL}{R R2:Value->HL->Prop}(hp:H2.Perm (H++X))(h:Sp P f args H (X++F) R)(hr:∀u Y,R u Y->∃H',R2 u H'/\H'.Perm (Y++X)):Sp P f args H2 F R2:=λ w hR=>
 (h w (by rw[<- aaF];exact hR.perm (hp.symm.append_right F))).mono λ e w' ⟨v,Y,h1,h2,h3,h4⟩=>by
  obtain⟨H',h5,h6⟩:=hr v Y h2;exact⟨v,H',h1,h5,(by rw[<- aaF] at h3;exact h3.perm (h6.append_right F)),h4⟩
inductive GameX(rs:List Bx)(ds:List Dr)(bp gb mb:Nat)(S:Setup)(M:MemS)(k:Nat):HL->Prop
 |mk (T U:HL) (hM:MemH mb M k T) (hU:uH S rs ds U):GameX rs ds bp gb mb S M k (ap [(gb,.lit (dW S bp mb) 119 (0,0))] [T,U])
section
variable {rs:List Bx} {ds:List Dr} {bp gb mb:Nat} {S:Setup} {M:MemS} {k:Nat} {G0:HL}
theorem GameH.x(h:GameH rs ds bp gb S M k G0):∃mb,GameX rs ds bp gb mb S M k G0:=by
 cases h with
 |mk mb T U hM hU=>exact⟨mb,.mk T U hM hU⟩
theorem GameX.h(h:GameX rs ds bp gb mb S M k G0):GameH rs ds bp gb S M k G0:=by
 cases h with
 |mk T U hM hU=>exact .mk mb T U hM hU
theorem GameX.weak(h:GameX rs ds bp gb mb S M k G0){k':Nat}(hk:k'<=k):GameX rs ds bp gb mb S M k' G0:=by
 cases h with
 |mk T U hM hU=>exact .mk T U (hM.weak hk) hU
theorem GameX.mem(h:GameX rs ds bp gb mb S M k G0):∃T,MemH mb M k T/\∀x∈T,x∈G0:=by
 cases h with
 |mk T U hM hU=>exact⟨T,hM,λ x hx=>by simp[ap,hx]⟩
theorem Si(h:GameX rs ds bp gb mb S M k G0)(hF:∀x∈G0,x∈F):af0 29 #[vP gb 0] F (vP mb 0):=by
 cases h with
 |mk T U hM hU=>exact I0 (S:=S) (bp:=bp) (gb:=gb) (mb:=mb) (F:=F) (hF _ (by simp[ap]))
end
theorem KJ{rs:List Bx}{ds:List Dr}{gb mb o c k:Nat}{j:Nat×Int}{full xs:List Inp}{G0:HL}(hG:GameX rs ds bp gb mb S M (k+20000) G0)(hj:j.1<5)(hA:AtOk F bp (M.get 0) j)(hE:cF F)(hI:(b,.rows 3 N (jM full) 106 (0,0))∈F)(hir:o+xs.length<=N)(VS:xs.length<=1000000)(hx:∀k,k<xs.length->full.getD (o+k) dI=xs.getD k dI)(hk:TkOk S j xs M) :
  af1 39 #[vP gb 0,vS b (o*3) xs.length c] (ap [] [G0]) F (λ u H'=>∃x:(Option Addr×Nat×Nat)×HL×HL,H'=ap [] [x.2.1,x.2.2]/\(GameX rs ds bp gb mb S (iK (mu S j xs) M) k x.2.1/\SlIs aB 112 (l7 (mu S j xs) M) x.1.1 x.1.2.1 x.2.2/\u=.tuple #[.slice x.1.1 (l7 (mu S j xs) M).length x.1.2.1,vI ((x.1.2.2+1:Nat):Int),vI 0])):=by
 obtain⟨m,hm,hg⟩:=hk.ex;obtain⟨e1,e2⟩:=DJ hm hg;cases hG with
 |mk T U hM hU=>
  rw[bm];refine(zJ gb o c m k hj hA hU hE hI hir VS (by omega) rfl hx (hM.weak (by omega)) hk.now hg hk.ok).mono λ u H' h=>?_;obtain⟨x,rfl,h1,h2,h3⟩:=h;rw[e1] at h1;rw[e2] at h2 h3;exact⟨((x.2.1,x.2.2.1,m),ap [(gb,.lit (dW S bp mb) 119 (0,0))] [x.1,U],x.2.2.2),by simp[ap],.mk x.1 U h1 hU,h2,h3⟩
section
variable {r:Option Nat} {P:Program} {N:Nat} {D:List Deferred} {F:HL} {w0:World} {R:HL} {s:Cfg} {Q:Exit->Act->World->Prop} {hards:List Nat} {Rd:HL}
def Sj(p:Nat)(O:Obj)(s:Cfg):Cfg:=match s with
 | ⟨c,k,L,A,Ts⟩=>⟨c,k,L,match A[p]? with|some x=>aS A p (x.1,.obj O)|none=>A,Ts⟩
end
open Go.Shelf
def tQ(x:Int×Value×Nat):MapEntry:={ key:=vI x.1,val:=x.2.1,born:=x.2.2 }
abbrev bG(kv:List (Int×Value×Nat))(c:Nat):Obj:=.map ⟨kv.map tQ⟩ c
def oL:List (Int×Value×Nat)->Int->Nat->Option (Nat×Value)
 | [],_,_=>none
 |x::l,k,i=>if (k == x.1)=true then some (i,x.2.1) else oL l k (i+1)
def tR(kv:List (Int×Value×Nat))(k:Int):Option Value:=(oL kv k 0).map (·.2)
def lN(kv:List (Int×Value×Nat))(c:Nat)(k:Int)(v:Value):List (Int×Value×Nat):=match oL kv k 0 with
 |some (i,_)=>kv.modify i (λ x=>(k,v,x.2.2))
 |none=>kv++[(k,v,c)]
def jd(kv:List (Int×Value×Nat))(c:Nat)(k:Int):Nat:=match oL kv k 0 with
 |some _=>c
 |none=>c+1
def nF(kv:List (Int×Value×Nat))(k:Int):List (Int×Value×Nat):=match oL kv k 0 with
 |some (i,_)=>kv.eraseIdx i
 |none=>kv
theorem mv(k:Int):∀ (kv:List (Int×Value×Nat)) (i j:Nat) (v:Value),oL kv k i=some (j,v)->i<=j/\∃n,kv[j-i]?=some (k,v,n)
 | [],_,_,_,h=>by cases h
 |x::l,i,j,v,h=>by
  rw[oL] at h;split at h
  ·rename_i hk;simp only[de,df] at h;obtain⟨rfl,rfl⟩:=h;have e:k=x.1:=by simpa using hk
   subst e;exact⟨aaI _,x.2.2,by simp⟩
  ·obtain⟨h1,n,h2⟩:=mv k l (i+1) j v h;refine⟨by omega,n,?_⟩;rw[show j-i=(j-(i+1))+1 by omega,ace];exact h2
theorem vv(ik:IntKind)(k:Int):∀ (kv:List (Int×Value×Nat)) (i:Nat),Instr.findNow (.int ik) (vI k) (kv.map tQ) i=some (oL kv k i)
 | [],_=>rfl
 |x::l,i=>by
  rw[acF,Instr.findNow,oL];simp only[Instr.sameNow,tQ,if_true];cases h:(k == x.1) with
  |true=>simp
  |false=>simp[vv ik k l (i+1)]
theorem pU(hk:P.underlying kt=some (.int ik))(k:Int)(kv:List (Int×Value×Nat))(w:World):(Instr.findKey kt (vI k) (kv.map tQ)).run P w=.ok (oL kv k 0) w:=by
 unfold Instr.findKey;rw[abg,aE hk];simp only[Result.andThen,vv];rfl
theorem nG(hk:P.underlying kt=some (.int ik))(e:Bool)(k:Int)(w:World):(Instr.checkKey e 10000 kt (vI k)).run P w=.ok () w:=by
 rw[show (10000:Nat)=9999+1 from rfl,Instr.checkKey.eq_def];simp only;rw[abg,aE hk];rfl
abbrev GR(kv:List (Int×Value×Nat))(k:Int)(ok:Bool)(z:Value):Value:=if ok=true then .tuple #[(tR kv k).getD z,.bool (tR kv k).isSome] else (tR kv k).getD z
theorem zS{c:Nat}{kv:List (Int×Value×Nat)}{z:Value}{i:TypeInfo}(ok:Bool)(ht:P.underlying t=some (.map kt et))(hk:P.underlying kt=some (.int ik))(hi:P.info? et=some i)(hz:i.zero=some z)(hb:w.heap[b]?=some (bG kv c)) :
  (Instr.lookup t (.map (some b)) (vI k) ok).run P w=.ok (GR kv k ok z) w:=by
 unfold Instr.lookup;rw[abg,aE ht];simp only[Result.andThen,abg,gh hb,b7,nG hk,pU hk];unfold GR tR;cases h:oL kv k 0 with
 |some x=>
  obtain⟨j,v⟩:=x;cases ok <;> rfl
 |none=>
  simp only[zeroValue,abg,cL hi,Result.andThen,hz,b7];cases ok <;> rfl
theorem kJ{n:Nat}{es:Array MapEntry}(hb:w.heap[b]?=some (.map es n)){o:Obj}:(setObj b o).run P w=.ok () { w with heap:=w.heap.setIfInBounds b o }:=by
 unfold setObj;rw[acW];simp only[hb];rfl
theorem qr{c:Nat}{kv:List (Int×Value×Nat)}{v:Value}(ht:P.underlying t=some (.map kt et))(hk:P.underlying kt=some (.int ik))(hb:w.heap[b]?=some (bG kv c)) :
  (Instr.mapUpdate t (.map (some b)) (vI k) v).run P w=.ok () { w with heap:=w.heap.setIfInBounds b (bG (lN kv c k v) (jd kv c k)) }:=by
 unfold Instr.mapUpdate;rw[abg,aE ht];simp only[Result.andThen,abg,gh hb,nG hk,pU hk];unfold lN jd;cases h:oL kv k 0 with
 |none=>
  simp only[kJ hb];congr 3;simp[tQ]
 |some x=>
  obtain⟨j,u⟩:=x;obtain⟨h1,n,h2⟩:=mv k kv 0 j u h;rw[afB] at h2;have hks:((⟨kv.map tQ⟩:Array MapEntry)[j]?).map (·.key)=some (vI k):=by simp[h2,tQ]
  simp only[abg,hks,adz];have adU:(Instr.keyThatStays (vI k) (vI k)).run P w=.ok (vI k) w:=by
   unfold Instr.keyThatStays;rw[show (10000:Nat)=9999+1 from rfl,if_pos (by simp[Instr.sameBits])];rfl
  rw[adU];refine(kJ hb).trans ?_;congr 3;simp only[Obj.map.injEq,and_true];apply afN.1;simp only[Array.toList_modify];apply acg;intro m;simp only[List.getElem?_modify,abo]
  by_cases e:j=m
  ·subst e;simp[h2,tQ]
  ·simp[e]
theorem mU{α β:Type}(f:α->β):∀ (l:List α) (j:Nat),(l.map f).eraseIdx j=(l.eraseIdx j).map f
 | [],_=>rfl
 |_::_,0=>rfl
 |x::l,j+1=>by simp[mU f l j]
theorem zT{ty x:TypeId}{c:Nat}{kv:List (Int×Value×Nat)}(ht:P.underlying t=some (.map kt et))(hk:P.underlying kt=some (.int ik))(hb:w.heap[b]?=some (bG kv c)) :
  (Builtin.delete_ #[t,x] ty #[.map (some b),vI k]).run P w=.ok (.tuple #[]) { w with heap:=w.heap.setIfInBounds b (bG (nF kv k) c) }:=by
 unfold Builtin.delete_;simp only[acY,ac1,ace];rw[abg,aE ht];simp only[Result.andThen,abg,gh hb,nG hk,pU hk];unfold nF;cases h:oL kv k 0 with
 |none=>
  simp only[abg,kJ hb];rfl
 |some x=>
  obtain⟨j,u⟩:=x;obtain⟨h1,n,h2⟩:=mv k kv 0 j u h;rw[afB] at h2;have hj:j<kv.length:=(bt.1 h2).1;simp only[abg,kJ hb];show Result.ok _ _=_;congr 3;simp only[Obj.map.injEq,and_true];apply afN.1;rw[Array.eraseIdxIfInBounds,dif_pos (by simpa using hj)];show ((kv.map tQ).toArray.eraseIdx j _).toList=_;rw[List.eraseIdx_toArray];exact mU tQ kv j
def KL(P:Program)(N p:Nat)(oo:Option Oper)(s:Cfg):Option (Int×Bool×Value×Nat×Nat×Obj):=match oo with
 |some o=>match o.guard,o.op,(cD N o.dst undef s.L).isSome with
  |none,.lookup t x ix ok,true=>match dw s.L x && dw s.L ix,cN s.L x,cN s.L ix,P.underlying t,s.A[p]? with
   |true,.map (some b),.int .i64 k,some (.map kt et),some (b',.obj O)=>match P.underlying kt,(P.info? et).bind (·.zero) with
    |some (.int _),some z=>some (k,ok,z,b,b',O)
    |_,_=>none
   |_,_,_,_,_=>none
  |_,_,_=>none
 |none=>none
def Sk(x:Option (Int×Bool×Value×Nat×Nat×Obj)):Nat:=match x with
 |some (_,_,_,_,b,_)=>b
 |none=>0
theorem Ge{ok:Bool}{z:Value}(h:KL P N p oo s=some (k,ok,z,b,b,O)) :
  ∃o t x ix kt et i ik,oo=some o/\o.guard=none/\o.op=.lookup t x ix ok/\(dw s.L x && dw s.L ix)=true/\cN s.L x=.map (some b)/\cN s.L ix=.int .i64 k/\P.underlying t=some (.map kt et)/\P.underlying kt=some (.int ik)/\P.info? et=some i/\i.zero=some z/\s.A[p]?=some (b,.obj O)/\(cD N o.dst undef s.L).isSome=true:=by
 unfold KL at h;split at h
 case h_2=>cases h
 rename_i o;split at h
 case h_2=>cases h
 rename_i t x ix ok' h1 h2 h3;split at h
 case h_2=>cases h
 rename_i b1 k1 kt et b2 O1 h4 h5 h6 h7 h8;split at h
 case h_2=>cases h
 rename_i ik z1 h9 UE;simp only[de,df] at h;obtain⟨e1,e2,e3,e4,e5,e6⟩:=h;subst e1;subst e2;subst e3;subst e4;subst e5;subst e6;rw[Option.bind_eq_some_iff] at UE;obtain⟨i,hi,hz⟩:=UE;exact⟨o,t,x,ix,kt,et,i,ik,rfl,h1,h2,h4,h5,h6,h7,h9,hi,hz,h8,h3⟩
section
variable {r:Option Nat} {P:Program} {N:Nat} {D:List Deferred} {F:HL} {w0:World} {R:HL} {s:Cfg} {Q:Exit->Act->World->Prop} {hards:List Nat} {Rd:HL}
theorem pV(p:Nat){kv:List (Int×Value×Nat)}{cl:Nat}{ok:Bool}{z v:Value}(ev:GR kv k ok z=v)(hk:RN r P N D F w0 R (cR N v s) Q)
  (h:KL P N p (eU s) s=some (k,ok,z,Sk (KL P N p (eU s) s),Sk (KL P N p (eU s) s),bG kv cl):=by kernel_rfl):RN r P N D F w0 R s Q:=by
 subst ev;obtain⟨o,t,x,ix,kt,et,i,ik,q0,q1,q2,q3,q4,q5,q6,q7,q8,q9,I_,Ud⟩:=Ge h;refine⟨λ hR a w hF aT hB=>?_⟩;obtain⟨c,kk,L,A,Ts⟩:=s;unfold eU at q0;cases c with
 |code c=>cases q0
 |ex c=>cases q0
 |drw _ _=>cases q0
 |ops ops j=>
  simp only at q0 q3 q4 q5 I_ Ud hF aT;have oR:ops.toList.drop j=o::ops.toList.drop (j+1):=by
   have iN:j<ops.toList.length:=(bt.1 q0).1;rw[eB iN,(bt.1 q0).2]
  show wpListIn _ _ _ _ _ _ _ _;rw[oR,wpListIn,if_pos (by simp[Region.wanted,q1])];refine⟨λ _ _=>trivial,?_⟩;rw[abc] at q3;have hb:=aT.holds _ (aaB _ (aaB _ (go I_)));simp only[Blk.den] at hb;obtain⟨L',hl⟩:=cr Ud (GR kv k ok z);have Of:cR N (GR kv k ok z) ⟨.ops ops j,kk,L,A,Ts⟩=⟨.ops ops (j+1),kk,L',A,Ts⟩:=by
   unfold cR;simp only[q0,hl]
  have hh:=hk.h hR;rw[Of] at hh;have hex:(execOp a.eval o).run P w=.ok (.value (GR kv k ok z)) w:=by
   have e1:a.eval x=.map (some _):=(hF.eval q3.1).trans q4;have e2:a.eval ix=.int .i64 k:=(hF.eval q3.2).trans q5;have:=zS (P:=P) (w:=w) (k:=k) ok q6 q7 q8 q9 hb;simp only[execOp,q2,e1,e2,abg,this,Result.andThen];rfl
  rw[Oper.semAt_eq _ _ _ (by rw[q2];intro c hc;cases hc),hex,Oper.uponIn_value];exact hh _ w (hF.put hl) aT hB
def tS(P:Program)(N p:Nat)(oo:Option Oper)(s:Cfg):Option (Int×Value×Nat×Nat×Obj):=match oo with
 |some o=>match o.guard,o.op,(cD N o.dst undef s.L).isSome with
  |none,.mapUpdate t m x v,true=>match dw s.L m && (dw s.L x && dw s.L v),cN s.L m,cN s.L x,P.underlying t,s.A[p]? with
   |true,.map (some b),.int .i64 k,some (.map kt _),some (b',.obj O)=>match P.underlying kt with
    |some (.int _)=>some (k,cN s.L v,b,b',O)
    |_=>none
   |_,_,_,_,_=>none
  |none,.insert t m x v,true=>match dw s.L m && (dw s.L x && dw s.L v),cN s.L m,cN s.L x,P.underlying t,s.A[p]? with
   |true,.map (some b),.int .i64 k,some (.map kt _),some (b',.obj O)=>match P.underlying kt with
    |some (.int _)=>some (k,cN s.L v,b,b',O)
    |_=>none
   |_,_,_,_,_=>none
  |_,_,_=>none
 |none=>none
def Gf(x:Option (Int×Value×Nat×Nat×Obj)):Nat:=match x with
 |some (_,_,_,b,_)=>b
 |none=>0
theorem vw{P:Program}{N:Nat}{s:Cfg}{v:Value}(h:tS P N p oo s=some (k,v,b,b,O)) :
  ∃o t m x y kt et ik,oo=some o/\o.guard=none/\(o.op=.mapUpdate t m x y\/o.op=.insert t m x y)/\dw s.L m=true/\dw s.L x=true/\dw s.L y=true/\cN s.L m=.map (some b)/\cN s.L x=.int .i64 k/\cN s.L y=v/\P.underlying t=some (.map kt et)/\P.underlying kt=some (.int ik)/\s.A[p]?=some (b,.obj O)/\(cD N o.dst undef s.L).isSome=true:=by
 unfold tS at h;split at h
 case h_2=>cases h
 rename_i o;split at h
 case h_3=>cases h
 all_goals
  rename_i t m x y h1 h2 h3;split at h
  case h_2=>cases h
  rename_i b1 k1 kt et b2 O1 h4 h5 h6 h7 h8;split at h
  case h_2=>cases h
  rename_i ik h9;simp only[de,df] at h;obtain⟨e1,e2,e3,e4,e5⟩:=h;subst e1;subst e3;subst e4;subst e5;rw[abc,abc] at h4
 ·exact⟨o,t,m,x,y,kt,et,ik,rfl,h1,.inl h2,h4.1,h4.2.1,h4.2.2,h5,h6,e2,h7,h9,h8,h3⟩
 ·exact⟨o,t,m,x,y,kt,et,ik,rfl,h1,.inr h2,h4.1,h4.2.1,h4.2.2,h5,h6,e2,h7,h9,h8,h3⟩
theorem TU(p:Nat){kv:List (Int×Value×Nat)}{cl:Nat}{v:Value}(hk:RN r P N D F w0 R (Sj p (bG (lN kv cl k v) (jd kv cl k)) (cR N undef s)) Q)
  (h:tS P N p (eU s) s=some (k,v,Gf (tS P N p (eU s) s),Gf (tS P N p (eU s) s),bG kv cl):=by kernel_rfl):RN r P N D F w0 R s Q:=by
 obtain⟨o,t,m,x,y,kt,et,ik,q0,q1,q2,q3,q3',Yb,q4,q5,q5',q6,q7,I_,Ud⟩:=vw h;refine⟨λ hR a w hF aT hB=>?_⟩;generalize Gf (tS P N p (eU s) s)=b at *;obtain⟨c,kk,L,A,Ts⟩:=s;unfold eU at q0;cases c with
 |code c=>cases q0
 |ex c=>cases q0
 |drw _ _=>cases q0
 |ops ops j=>
  simp only at q0 q3 q3' Yb q4 q5 q5' I_ Ud hF aT;have oR:ops.toList.drop j=o::ops.toList.drop (j+1):=by
   have iN:j<ops.toList.length:=(bt.1 q0).1;rw[eB iN,(bt.1 q0).2]
  show wpListIn _ _ _ _ _ _ _ _;rw[oR,wpListIn,if_pos (by simp[Region.wanted,q1])];refine⟨λ _ _=>trivial,?_⟩;have hb:=aT.holds _ (aaB _ (aaB _ (go I_)));simp only[Blk.den] at hb;obtain⟨L',hl⟩:=cr Ud undef;have Of:cR N undef ⟨.ops ops j,kk,L,A,Ts⟩=⟨.ops ops (j+1),kk,L',A,Ts⟩:=by
   unfold cR;simp only[q0,hl]
  have hh:=hk.h hR;rw[Of] at hh;have e1:a.eval m=.map (some b):=(hF.eval q3).trans q4;have e2:a.eval x=.int .i64 k:=(hF.eval q3').trans q5;have e3:a.eval y=v:=(hF.eval Yb).trans q5';have Yn:=qr (P:=P) (w:=w) (k:=k) (v:=v) q6 q7 hb;have hex:(execOp a.eval o).run P w=.ok .skip { w with heap:=w.heap.setIfInBounds b (bG (lN kv cl k v) (jd kv cl k)) }:=by
   rcases q2 with q2|q2
   ·simp only[execOp,q2,e1,e2,e3,abg,Yn,Result.andThen];rfl
   ·simp only[execOp,q2,e1,e2,e3,abg,Yn,Result.andThen];rfl
  have Vj:∀c,o.op≠ .defer c:=by
   intro c hc;rcases q2 with q2|q2 <;> rw[q2] at hc <;> cases hc
  rw[Oper.semAt_eq _ _ _ Vj,hex,Oper.uponIn_skip];have iN:=aW hb;rw[eo] at aT;have IF:=aT.upd (w':={ w with heap:=w.heap.setIfInBounds b (bG (lN kv cl k v) (jd kv cl k)) }) (bl':=.obj (bG (lN kv cl k v) (jd kv cl k))) I_ (by
   show (w.heap.setIfInBounds b _)[b]?=_;rw[lv iN];rfl) (λ k' UJ=>by
   show (w.heap.setIfInBounds b _)[k']?=_;rw[vo (λ e=>UJ e.symm)])
  refine hh _ _ (hF.put hl) ?_ (hB.trans ⟨rfl,rfl,rfl,by simp,λ k hk=>by omega⟩);show Rel (ap (match A[p]? with|some x=>aS A p (x.1,.obj (bG (lN kv cl k v) (jd kv cl k)))|none=>A) Ts++F) _;rw[I_,eo];exact IF
end
def Gg(P:Program)(N p:Nat)(s:Cfg):Option (Int×Nat×Nat×Obj):=match eU s with
 |some o=>match o.guard,o.op,(cD N o.dst undef s.L).isSome with
  |none,.call c,true=>match c.callee,c.args.toList,c.argTypes.toList with
   | .builtin .delete,[m,x],[t,_]=>match dw s.L m && dw s.L x,cN s.L m,cN s.L x,P.underlying t,s.A[p]? with
    |true,.map (some b),.int .i64 k,some (.map kt _),some (b',.obj O)=>match P.underlying kt with
     |some (.int _)=>some (k,b,b',O)
     |_=>none
    |_,_,_,_,_=>none
   |_,_,_=>none
  |_,_,_=>none
 |none=>none
def Qc(x:Option (Int×Nat×Nat×Obj)):Nat:=match x with
 |some (_,b,_,_)=>b
 |none=>0
theorem Gh(h:Gg P N p s=some (k,b,b,O)) :
  ∃o t tx m x kt et ik,eU s=some o/\o.guard=none/\o.op=.call { callee:=.builtin .delete,args:=#[m,x],argTypes:=#[t,tx] } /\dw s.L m=true/\dw s.L x=true/\cN s.L m=.map (some b)/\cN s.L x=vI k/\P.underlying t=some (.map kt et)/\P.underlying kt=some (.int ik)/\s.A[p]?=some (b,.obj O)/\(cD N o.dst undef s.L).isSome=true:=by
 unfold Gg at h;split at h
 case h_2=>cases h
 rename_i o ho;split at h
 case h_2=>cases h
 rename_i c h1 h2 h3;split at h
 case h_2=>cases h
 rename_i m x t tx g1 g2 g3;split at h
 case h_2=>cases h
 rename_i b1 k1 kt et b2 O1 h4 h5 h6 h7 h8;split at h
 case h_2=>cases h
 rename_i ik h9;simp only[de,df] at h;obtain⟨e1,e2,e3,e4⟩:=h;subst e1;subst e2;subst e3;subst e4;rw[abc] at h4;refine⟨o,t,tx,m,x,kt,et,ik,ho,h1,?_,h4.1,h4.2,h5,h6,h7,h9,h8,h3⟩;obtain⟨cal,args,ats⟩:=c;simp only at g1 g2 g3;subst g1;have e1:args=#[m,x]:=by cases args;simp_all
 have e2:ats=#[t,tx]:=by cases ats;simp_all
 rw[h2,e1,e2]
section
variable {r:Option Nat} {P:Program} {N:Nat} {D:List Deferred} {F:HL} {w0:World} {R:HL} {s:Cfg} {Q:Exit->Act->World->Prop}
theorem Qd(p:Nat){kv:List (Int×Value×Nat)}{cl:Nat}(hk:RN r P N D F w0 R (Sj p (bG (nF kv k) cl) (cR N (.tuple #[]) s)) Q)
  (h:Gg P N p s=some (k,Qc (Gg P N p s),Qc (Gg P N p s),bG kv cl):=by kernel_rfl):RN r P N D F w0 R s Q:=by
 obtain⟨o,t,tx,m,x,kt,et,ik,q0,q1,q2,q3,q3',q4,q5,q6,q7,I_,Ud⟩:=Gh h;refine⟨λ hR a w hF aT hB=>?_⟩;generalize Qc (Gg P N p s)=b at *;obtain⟨c,kk,L,A,Ts⟩:=s;unfold eU at q0;cases c with
 |code c=>cases q0
 |ex c=>cases q0
 |drw _ _=>cases q0
 |ops ops j=>
  simp only at q0 q3 q3' q4 q5 I_ Ud hF aT;have oR:ops.toList.drop j=o::ops.toList.drop (j+1):=by
   have iN:j<ops.toList.length:=(bt.1 q0).1;rw[eB iN,(bt.1 q0).2]
  show wpListIn _ _ _ _ _ _ _ _;rw[oR,wpListIn,if_pos (by simp[Region.wanted,q1])];refine⟨λ _ _=>trivial,?_⟩;have hb:=aT.holds _ (aaB _ (aaB _ (go I_)));simp only[Blk.den] at hb;have iN:=aW hb;have key:b9 P o a w λ u w'=>u=.tuple #[]/\Rel (ap (match A[p]? with|some x=>aS A p (x.1,.obj (bG (nF kv k) cl))|none=>A) Ts++F) w'/\Below 0 w w':=by
   have e1:a.eval m=.map (some b):=(hF.eval q3).trans q4;have e2:a.eval x=vI k:=(hF.eval q3').trans q5;have iO:=zT (P:=P) (w:=w) (x:=tx) (ty:=o.type) (k:=k) q6 q7 hb;unfold b9;have he:(execOp a.eval o).run P w=.ok (.value (.tuple #[])) { w with heap:=w.heap.setIfInBounds b (bG (nF kv k) cl) }:=by
    simp[execOp,q2,resolve,invoke,builtin,abg,e1,e2,iO]
   rw[he];rw[eo] at aT;have IF:=aT.upd (w':={ w with heap:=w.heap.setIfInBounds b (bG (nF kv k) cl) }) (bl':=.obj (bG (nF kv k) cl)) I_ (by
    show (w.heap.setIfInBounds b _)[b]?=_;rw[lv iN];rfl) (λ k' UJ=>by
    show (w.heap.setIfInBounds b _)[k']?=_;rw[vo (λ e=>UJ e.symm)])
   refine⟨rfl,?_,⟨rfl,rfl,rfl,by simp,λ k hk=>by omega⟩⟩;rw[I_,eo];exact IF
  refine dM (by rw[q2];intro c hc;cases hc) key ?_;rintro u w' ⟨rfl,IF,VY⟩;obtain⟨L',hl⟩:=cr Ud (.tuple #[]);have hh:=hk.h hR;have Of:cR N (.tuple #[]) ⟨.ops ops j,kk,L,A,Ts⟩=⟨.ops ops (j+1),kk,L',A,Ts⟩:=by
   unfold cR;simp only[q0,hl]
  rw[Of] at hh;exact hh _ w' (hF.put hl) IF (hB.trans VY)
end
end Go.Proofs.YtjokannbjmndfaaGreatDoor
