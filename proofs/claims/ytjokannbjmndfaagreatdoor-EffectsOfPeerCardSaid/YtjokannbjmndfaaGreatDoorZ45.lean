import Derived.Test.YtjokannbjmndfaaGreatDoorZ44
import Derived.Test.YtjokannbjmndfaaGreatDoorZ10
import Derived.WalkKit
import Derived.WalkSpells
import Derived.Laws.StructEq
import Derived.Test.YtjokannbjmndfaaGreatDoorZ20
import Derived.Test.YtjokannbjmndfaaGreatDoorZ43
import Derived.Test.YtjokannbjmndfaaGreatDoorZ42
import Derived.Shelf.SlIterI.Collect
import Derived.Ground.GgzProg
import Derived.Test.YtjokannbjmndfaaGreatDoorProg
set_option linter.all false
set_option maxHeartbeats 4000000
set_option maxRecDepth 100000
namespace Go.Proofs.YtjokannbjmndfaaGreatDoor
open Go.RowKit Go.MapKept
variable {A:Option Addr} {B b i mb n t:Nat} {F T Tn:HL} {P:Program} {a:Array Value} {bd:Int} {g:Eff->Nat} {k:Eff} {o:Option Value} {xs:List Eff} (ix:List Nat) (j:Nat) (w:World)
instance:DecidableEq Eff:=λ x y=>decidable_of_iff (x.t=y.t/\x.i=y.i/\x.k=y.k/\x.v=y.v) (by cases x;cases y;simp)
abbrev lj(x:Eff):Value:=.agg #[vI x.t,vI x.i,vI x.k,vI x.v]
theorem Qn:Tryz.prog.stoodInHeld 112=false:=by kernel_rfl
theorem TY(x y:Eff)(w:World):(binOp .eql 112 (lj x) (lj y)).run Tryz.prog w=.ok (.bool (decide (x=y))) w:=by
 have hp:=Qn;obtain⟨a0,a1,a2,a3⟩:=x;obtain⟨b0,b1,b2,b3⟩:=y
 go_simp
 by_cases h0:a0=b0 <;> by_cases h1:a1=b1 <;> by_cases h2:a2=b2 <;> by_cases h3:a3=b3 <;> simp[h0,h1,h2,h3]
theorem Qo(x y:Eff)(w:World):(Op.equal 112 (lj x) (lj y)).run Tryz.prog w=.ok (decide (x=y)) w:=by
 have h:=TY x y w;rw[run_eql_struct] at h;unfold Op.equal Op.maxDepth;cases hr:(Op.equalIn 10000 112 (lj x) (lj y)).run Tryz.prog w with
 |ok b w'=>
  simp only[lj] at hr;rw[hr] at h;simp only[abf,Result.ok.injEq,Value.bool.injEq] at h;rw[h.1,h.2]
 |halt x w'=>
  simp only[lj] at hr;rw[hr] at h;simp[Result.andThen] at h
theorem Qp(x:Eff)(e:Bool)(w:World):(Instr.checkKey e 10000 112 (lj x)).run Tryz.prog w=.ok () w:=by
 obtain⟨a0,a1,a2,a3⟩:=x;have hc:∀ (a:Int) (w':World),(Instr.checkKey e 9999 3 (.int .i64 a)).run Tryz.prog w'=.ok () w':=λ a w'=>run_checkKey (k:=.int .i64 a) Tryz.underlying3 (show IsKey (.int .i64) (.int .i64 a) from rfl) e 9998;unfold Instr.checkKey
 go_simp
theorem re:KeyLaw Tryz.prog 112 lj where
 check k e w:=Qp k e w
 find k l ks h w:=by
  obtain⟨a,hr,ha⟩:=qu (P:=Tryz.prog) (kt:=112) (enc:=lj) Qo k l ks 0 h w;refine⟨a,?_,?_⟩
  ·cases l with
   |nil=>
    have:a=none:=by
     unfold Instr.findAsking at hr;simp at hr;exact hr.symm
    subst this;simp[Instr.findKey,Instr.findNow,run_underlying Tryz.underlying112,Result.andThen]
   |cons e l=>
    simp only[Instr.findKey,abg,run_underlying Tryz.underlying112,Result.andThen,Instr.findNow,Instr.sameNow];exact hr
  ·cases a with
   |none=>exact ha
   |some p=>
    obtain⟨i,v⟩:=p;obtain⟨j,rfl,h1,e',h2,h3⟩:=ha;exact⟨by simpa using h1,e',by simpa using h2,h3⟩
 inj k k' h:=by
  obtain⟨a0,a1,a2,a3⟩:=k;obtain⟨b0,b1,b2,b3⟩:=k';simp only[lj,Value.agg.injEq] at h;simp at h;simp[h]
 same k:=by simp[Instr.sameBits,lj]
def oU(g:Eff->Nat)(x:Eff):Eff->Nat:=λ y=>if y=x then g x-1 else g y
def jI:(Eff->Nat)->List Eff->List Eff
 |_,[]=>[]
 |g,x::l=>if g x>0 then jI (oU g x) l else x::jI g l
def NH:(Eff->Nat)->List Eff->List Eff
 |_,[]=>[]
 |g,x::l=>if g x>0 then x::NH (oU g x) l else NH g l
theorem z8:∀ (l:List Eff) (g:Eff->Nat),(jI g l).length+(NH g l).length=l.length
 | [],_=>rfl
 |x::l,g=>by
  rw[jI,NH];split
  ·have:=z8 l (oU g x);simp only[aaZ];omega
  ·have:=z8 l g;simp only[aaZ];omega
theorem oV(y:Eff):∀ (l:List Eff) (g:Eff->Nat),(NH g l).count y=min (l.count y) (g y)
 | [],g=>by simp[NH]
 |x::l,g=>by
  rw[NH];split
  ·next h=>
   rw[afY,afY,oV y l];unfold oU
   by_cases e:y=x
   ·subst e;simp;omega
   ·have e2:(x == y)=false:=by simpa using λ h=>e h.symm
    simp[e,e2]
  ·next h=>
   rw[afY,oV y l]
   by_cases e:y=x
   ·subst e;simp;omega
   ·have e2:(x == y)=false:=by simpa using λ h=>e h.symm
    simp[e2]
theorem NI(a b:List Eff):(jI (λ x=>b.count x) a).length+b.length=(jI (λ x=>a.count x) b).length+a.length:=by
 have h1:=z8 a (λ x=>b.count x);have h2:=z8 b (λ x=>a.count x);have h3:(NH (λ x=>b.count x) a).Perm (NH (λ x=>a.count x) b):=List.perm_iff_count.2 λ y=>by
  rw[oV,oV];omega
 have:=h3.length_eq;omega
open Go.Shelf
theorem Lf:(zeroValue 3).run Tryz.prog w=.ok (vI 0) w:=by kernel_rfl
def CntT(mb:Nat)(g:Eff->Nat)(T:HL):Prop:=∃ks f,MapT lj mb ks f T/\∀x,(f x).getD (vI 0)=vI (g x:Int)
def CntS(mb:Nat)(g:Eff->Nat)(k:Eff)(b:Nat)(T:HL):Prop:=∃ks f,K8 lj mb ks f k b T/\∀x,(f x).getD (vI 0)=vI (g x:Int)
theorem CntT.new(mb:Nat):CntT mb (λ _=>0) [(mb,.obj (.map #[] 0))]:=⟨[],_,MapT.new,λ _=>rfl⟩
theorem CntS.cnt(h:CntS mb g k b T):CntT mb g T:=by
 obtain⟨ks,f,h1,h2⟩:=h;exact⟨ks,f,h1.1,h2⟩
section
variable {r:Option Nat} {N:Nat} {D:List Deferred} {F:HL} {w0:World} {R:HL} {s:Cfg} {Q:Exit->Act->World->Prop} {hards:List Nat} {Rd:HL} {mb:Nat} {g:Eff->Nat} {T:HL} {k:Eff}
theorem Qq(hT:CntT mb g T)(hk:RN r Tryz.prog N D F w0 R (cR N (vI (g k:Int)) s) Q)
  (h:gW N (eU s) s.L=some (0,151,[.map (some mb),lj k]):=by kernel_rfl) (hp:aJ [] [j] s=true:=by kernel_rfl) (hH:picks [] [j] s=([],[T]):=by kernel_rfl):RN r Tryz.prog N D F w0 R s Q:=by
 obtain⟨ks,f,h1,h2⟩:=hT;exact xf j re h1 Tryz.underlying151 Lf (h2 k) hk h hp hH
theorem rh(hT:CntT mb g T)(hk:RD r Tryz.prog N D F w0 R hards Rd (mH N i (vI (g k:Int)) s) Q)
  (h:gW N (eL i s) s.L=some (0,151,[.map (some mb),lj k]):=by kernel_rfl) (hp:aJ [] [j] s=true:=by kernel_rfl) (hH:picks [] [j] s=([],[T]):=by kernel_rfl) (hx:hards.contains i=false:=by kernel_rfl):RDO r Tryz.prog N D F w0 R hards Rd i s Q:=by
 obtain⟨ks,f,h1,h2⟩:=hT;exact ND re h1 Tryz.underlying151 Lf (h2 k) hk h hp hH hx
theorem ri(hT:CntT mb g T)
  (hk:∀ (v:Value) (b:Nat) (T':HL),CntS mb g k b T'->RD r Tryz.prog N D F w0 R hards Rd (m6 (λ A=>([]:HL)++(oth [] A.length).filterMap (A[·]?)) (λ Ts=>[T']++(oth [j] Ts.length).filterMap (Ts[·]?)) (mH N i (.tuple #[v,goInt b]) s)) Q)
  (h:gW N (eL i s) s.L=some (1,151,[.map (some mb),lj k]):=by kernel_rfl) (hp:aJ [] [j] s=true:=by kernel_rfl) (hH:picks [] [j] s=([],[T]):=by kernel_rfl) (hx:kQ (hards.contains i) ix [] [j] s Rd=Rd:=by kernel_rfl):RDO r Tryz.prog N D F w0 R hards Rd i s Q:=by
 obtain⟨ks,f,h1,h2⟩:=hT;refine NE re h1 Tryz.underlying151 Lf (λ b T' h3=>hk _ b T' ⟨_,_,h3,λ x=>?_⟩) h hp hH hx;unfold kf
 by_cases e:x=k
 ·subst e;simp[h2]
 ·simp[e,h2]
theorem rj{v:Value}(hT:CntS mb g k b T)(hv:v=vI (n:Int))
  (hk:∀T':HL,CntT mb (λ x=>if x=k then n else g x) T'->RD r Tryz.prog N D F w0 R hards Rd (m6 (λ A=>([]:HL)++(oth [] A.length).filterMap (A[·]?)) (λ Ts=>[T']++(oth [j] Ts.length).filterMap (Ts[·]?)) (mH N i undef s)) Q)
  (h:gW N (eL i s) s.L=some (2,151,[.map (some mb),goInt b,v]):=by kernel_rfl) (hp:aJ [] [j] s=true:=by kernel_rfl) (hH:picks [] [j] s=([],[T]):=by kernel_rfl) (hx:kQ (hards.contains i) ix [] [j] s Rd=Rd:=by kernel_rfl):RDO r Tryz.prog N D F w0 R hards Rd i s Q:=by
 obtain⟨ks,f,h1,h2⟩:=hT;subst hv;refine NF re h1 (λ T' h3=>hk T' ⟨_,_,h3,λ x=>?_⟩) h hp hH hx;unfold kf
 by_cases e:x=k
 ·subst e;simp
 ·simp[e,h2]
end
def cf(c:Nat->List Eff)(n:Nat):List Eff:=((List.range n).map c).flatten
theorem eh(c:Nat->List Eff)(n:Nat):cf c (n+1)=cf c n++c n:=by simp[cf,adn]
theorem mw{c:Nat->List Eff}:∀ {n:Nat},(∀t,t<n->c t=[])->cf c n=[]
 |0,_=>rfl
 |n+1,h=>by rw[eh,mw λ t ht=>h t (by omega),h n (by omega)];rfl
theorem qx{c d:Nat->List Eff}:∀ {n:Nat},(∀t,t<n->c t=d t)->cf c n=cf d n
 |0,_=>rfl
 |n+1,h=>by rw[eh,eh,qx λ t ht=>h t (by omega),h n (by omega)]
def ff(c:Nat->List Eff)(t:Nat)(l:List Eff):Nat->List Eff:=λ y=>if y=t then l else c y
def fG(c:Nat->List Eff)(t:Nat):Nat->List Eff:=λ y=>if y<t then [] else c y
theorem vC(c:Nat->List Eff)(t:Nat)(l:List Eff):∀ {n:Nat},t<n->(cf (ff c t l) n).length+(c t).length=(cf c n).length+l.length
 |0,h=>by omega
 |n+1,h=>by
  rw[eh,eh,aaK,aaK]
  by_cases e:t=n
  ·subst e;rw[qx (d:=c) λ y hy=>by unfold ff;rw[if_neg (by omega)]];unfold ff;rw[if_pos rfl];omega
  ·have h1:=vC c t l (n:=n) (by omega);have h2:ff c t l n=c n:=by unfold ff;rw[if_neg (λ h=>e h.symm)]
   rw[h2];omega
theorem my(c:Nat->List Eff)(t:Nat):∀ {n:Nat},t<=n->(cf (fG c t) n).length+(cf c t).length=(cf c n).length
 |0,h=>by
  obtain rfl:t=0:=by omega
  rfl
 |n+1,h=>by
  by_cases e:t=n+1
  ·subst e;rw[mw (c:=fG c (n+1)) λ y hy=>by unfold fG;rw[if_pos hy]];simp
  ·have h1:=my c t (n:=n) (by omega);have h2:fG c t n=c n:=by unfold fG;rw[if_neg (by omega)]
   rw[eh,eh,aaK,aaK,h2];omega
theorem Lg:(zeroValue 45).run Tryz.prog w=.ok (.slice none 0 0) w:=by kernel_rfl
theorem Cw:KeyLaw Tryz.prog 3 (Value.int .i64):=NB Tryz.underlying3
theorem CntT.to{g':Eff->Nat}(h:CntT mb g T)(e:g=g'):CntT mb g' T:=e▸h
theorem RowL.eff{q:Nat}(hq:(q,.rows 4 n (aD aB xs) 112 (0,0))∈F)(hn:xs.length=n):RowL aB 112 F (some ⟨q,0,none⟩) n xs:=by
 subst hn;exact RowL.whole hq (aaI _)
def SlO(F:HL)(o:Option Value)(l:List Eff):Prop:=(o=none/\l=[])\/∃A n c,o=some (.slice A n c)/\l≠[]/\RowL aB 112 F A n l
theorem SlO.mono{F':HL}{l:List Eff}(h:SlO F o l)(hs:∀x∈F,x∈F'):SlO F' o l:=by
 rcases h with h|⟨A,n,c,h1,h2,h3⟩
 ·exact .inl h
 ·exact .inr ⟨A,n,c,h1,h2,h3.mono hs⟩
theorem SlO.val{l:List Eff}(h:SlO F o l):∃A n c,o.getD (.slice none 0 0)=.slice A n c/\RowL aB 112 F A n l:=by
 rcases h with ⟨rfl,rfl⟩|⟨A,n,c,rfl,_,h⟩
 ·exact⟨none,0,0,rfl,.zero _⟩
 ·exact⟨A,n,c,rfl,h⟩
section
variable {κ:Type} {P:Program} {kt:TypeId} {enc:κ->Value} {mb:Nat} {ks:List κ} {f:κ->Option Value} {T:HL}
theorem MapT.nodup(K:KeyLaw P kt enc)(h:MapT enc mb ks f T):ks.Nodup:=by
 obtain⟨es,clock,_,n_,h2,_⟩:=h;have h3:=((stamped_iff es clock).1 n_).2.2;have h4:(es.toList.map (·.key)).Nodup:=acV.2 h3;rw[h2] at h4;exact(acV.1 h4).imp (λ u_ he=>u_ (by rw[he]))
theorem MapT.mem(h:MapT enc mb ks f T)(k:κ):k∈ks↔f k≠none:=by
 obtain⟨es,clock,_,_,h2,h3,h4⟩:=h;constructor
 ·intro hk;obtain⟨i,hi⟩:=List.mem_iff_getElem?.1 hk;have hl:=congrArg List.length h2;simp only[acD] at hl;have iN:=(bt.1 hi).1;rw[h3 i k _ hi (aa1 (by omega))];simp
 ·intro hf
  by_cases hk:k∈ks
  ·exact hk
  ·exact absurd (h4 k hk) hf
end
structure BoardM(bd:Int)(c:Nat->List Eff)(mb:Nat)(ks:List Int)(f:Int->Option Value)(Tm Pl:HL):Prop where
 map:MapT (Value.int .i64) mb ks f Tm
 sl:∀t:Nat,SlO Pl (f t) (c t)
 rg:∀k∈ks,0<=k/\k<6000
 lo:∀t:Nat,(t:Int)<bd->c t=[]
def fg(bb:Nat)(bd:Int)(c:Nat->List Eff)(G:HL):Prop:=∃mb ks f Tm Pl,G=ap [(bb,.lit [.map (some mb),vI bd] 103 (0,0))] [Tm,Pl]/\BoardM bd c mb ks f Tm Pl
section
variable {bd:Int} {c:Nat->List Eff} {mb:Nat} {ks:List Int} {f:Int->Option Value} {Tm Pl:HL}
theorem xg{mb:Nat}:BoardM 0 (λ _=>[]) mb [] (λ _=>none) [(mb,.obj (.map #[] 0))] [] :=
 ⟨MapT.new,λ t=>.inl ⟨rfl,rfl⟩,λ k hk=>(by cases hk),λ t h=>rfl⟩
theorem Ac(h:∀x,g x<=B):∀x,oU g k x<=B:=λ x=>by
 unfold oU;split
 ·have:=h k;omega
 ·exact h x
theorem BoardM.show(h:BoardM bd c mb ks f Tm Pl)(ht:t<6000)(hb:bd<=(t:Int)){cc:Nat}{l:List Eff}{Pn:HL}(hl:l≠[])(Zm:l.length=n)(hn:RowL aB 112 Pn A l.length l)(hT:MapT (Value.int .i64) mb (pZ ks (t:Int)) (kf f (t:Int) (.slice A n cc)) Tn):BoardM bd (ff c t l) mb (pZ ks (t:Int)) (kf f (t:Int) (.slice A n cc)) Tn (Pn++Pl):=by
 subst Zm;refine⟨hT,λ y=>?_,λ k hk=>?_,λ y hy=>?_⟩
 ·unfold kf ff
  by_cases e:y=t
  ·subst e;rw[if_pos rfl,if_pos rfl];exact .inr ⟨A,l.length,cc,rfl,hl,hn.mono λ x hx=>aaB _ hx⟩
  ·rw[if_neg (by omega),if_neg e];exact(h.sl y).mono λ x hx=>aaz _ hx
 ·unfold pZ at hk;split at hk
  ·exact h.rg k hk
  ·rcases np.1 hk with hk|hk
   ·exact h.rg k hk
   ·rw[eb.1 hk];omega
 ·unfold ff;rw[if_neg (by omega)];exact h.lo y hy
theorem BoardM.hide(h:BoardM bd c mb ks f Tm Pl)(hT:MapT (Value.int .i64) mb (ks.filter (· ≠(t:Int))) (oS f (t:Int)) Tn):BoardM bd (ff c t []) mb (ks.filter (· ≠(t:Int))) (oS f (t:Int)) Tn Pl:=by
 refine⟨hT,λ y=>?_,λ k hk=>h.rg k (adc.1 hk).1,λ y hy=>?_⟩
 ·unfold oS ff
  by_cases e:y=t
  ·subst e;rw[if_pos rfl,if_pos rfl];exact .inl ⟨rfl,rfl⟩
  ·rw[if_neg (by omega),if_neg e];exact h.sl y
 ·unfold ff;split
  ·rfl
  ·exact h.lo y hy
theorem lO(h:∀t,(c t).length<=B){l:List Eff}(hl:l.length<=B)(t:Nat):∀y,(ff c t l y).length<=B:=λ y=>by
 unfold ff;split
 ·exact hl
 ·exact h y
theorem Lh(h:∀t,(c t).length<=B)(t:Nat):∀y,(fG c t y).length<=B:=λ y=>by
 unfold fG;split
 ·exact aaJ _
 ·exact h y
def TicksL(c:Nat->List Eff)(l:List Int):Prop:=l.Pairwise (· < ·)/\(∀k∈l,0<=k/\k<6000)/\∀t:Nat,(t:Int)∈l↔c t≠[]
theorem BoardM.ticks(h:BoardM bd c mb ks f Tm Pl){l:List Int}(hs:l.Pairwise (· <= ·))(hp:l.Perm ks):TicksL c l:=by
 have hn:l.Nodup:=hp.nodup_iff.2 (h.map.nodup Cw);refine⟨(hs.and hn).imp λ h=>by omega,λ k hk=>h.rg k (hp.mem_iff.1 hk),λ t=>?_⟩;rw[hp.mem_iff,h.map.mem];rcases h.sl t with ⟨e1,e2⟩|⟨A,n,c',e1,e2,_⟩
 ·simp[e1,e2]
 ·simp[e1,e2]
theorem D6:∀ {l:List Int},l.Pairwise (· < ·)->(∀k∈l,0<=k)->∀ {i:Nat} (hi:i<l.length),(i:Int)<=l[i]
 | [],_,_,i,hi=>absurd hi (ot _)
 |x::l,h,h0,i,hi=>by
  have h1:=afE.1 h;cases i with
  |zero=>exact h0 x (aaC ..)
  |succ i=>
   have hi':i<l.length:=by simpa using hi
   have h2:=D6 (l:=l.map (· - 1)) (acV.2 (h1.2.imp λ h=>by omega)) (λ k hk=>by
    obtain⟨y,hy,rfl⟩:=abY.1 hk;have:=h1.1 y hy;have:=h0 x (aaC ..);omega) (i:=i) (by simpa using hi')
   simp only[afM] at h2;simp only[ac7];omega
 termination_by l=>l.length
theorem TicksL.len{l:List Int}(h:TicksL c l):l.length<=6000:=by
 by_cases hl:l.length=0
 ·omega
 ·have h1:=D6 h.1 (λ k hk=>(h.2.1 k hk).1) (i:=l.length-1) (by omega);have h2:=h.2.1 _ (ac0 (l:=l) (n:=l.length-1) (by omega));omega
def qI(c:Nat->List Eff)(l:List Int):List Eff:=(l.map λ k=>c k.toNat).flatten
theorem Ad(c:Nat->List Eff)(l:List Int)(k:Int):qI c (l++[k])=qI c l++c k.toNat:=by simp[qI]
theorem oW:∀ {l:List Int} {n:Nat},l.Pairwise (· < ·)->(∀k∈l,0<=k/\k<(n:Int))->(∀t:Nat,t<n->((t:Int)∈l↔c t≠[]))->qI c l=cf c n
 |l,0,h1,h2,h3=>by
  cases l with
  |nil=>rfl
  |cons x l=>have:=h2 x (aaC ..);omega
 |l,n+1,h1,h2,h3=>by
  rw[eh]
  by_cases e:c n=[]
  ·rw[e,acm];refine oW h1 (λ k hk=>?_) (λ t ht=>h3 t (by omega));have:=h2 k hk;have u_:k≠(n:Int):=λ ek=>(h3 n (by omega)).1 (ek▸hk) e;omega
  ·have hm:=(h3 n (by omega)).2 e;obtain⟨l1,l2,rfl⟩:=List.append_of_mem hm;have hq:=aff.1 h1;have h4:l2=[]:=by
    cases l2 with
    |nil=>rfl
    |cons y l2=>
     have a1:=(afE.1 hq.2.1).1 y (aaC ..);have a2:=h2 y (by simp);omega
   subst h4;rw[Ad,aeu,oW (n:=n) hq.1 (λ k hk=>?_) (λ t ht=>?_)]
   ·have a1:=hq.2.2 k hk (n:Int) (eb.2 rfl);have a2:=h2 k (aaB _ hk);omega
   ·rw[<- h3 t (by omega),np,eb];constructor
    ·exact .inl
    ·rintro(h|h)
     ·exact h
     ·omega
theorem BoardM.conf(h:BoardM bd c mb ks f Tm Pl){l:List Int}(hl:TicksL c l){dn:Nat}(hi:i<=l.length)(Zo:∀k∈l.take i,k<(dn:Int))(hhi:∀k∈l.drop i,(dn:Int)<=k){ks':List Int}{f':Int->Option Value}(hT:MapT (Value.int .i64) mb ks' f' Tn)(hk:∀k∈ks',k∈ks)(hf:∀k,f' k=if k∈l.take i then none else f k):BoardM (max bd dn) (fG c dn) mb ks' f' Tn Pl/\qI c (l.take i)=cf c dn:=by
 have YB:∀t:Nat,(t:Int)∈l.take i↔(t<dn/\c t≠[]):=λ t=>by
  rw[<- hl.2.2 t];constructor
  ·intro h1;have:=Zo _ h1;exact⟨by omega,ac9 h1⟩
  ·rintro⟨h1,h2⟩;rw[<- abt i l] at h2;rcases np.1 h2 with h2|h2
   ·exact h2
   ·have:=hhi _ h2;omega
 refine⟨⟨hT,λ t=>?_,λ k h1=>h.rg k (hk k h1),λ t ht=>?_⟩,?_⟩
 ·rw[hf];unfold fG
  by_cases h1:(t:Int)∈l.take i
  ·rw[if_pos h1,if_pos ((YB t).1 h1).1];exact .inl ⟨rfl,rfl⟩
  ·rw[if_neg h1];split
   ·next h2=>
    have h3:c t=[]:=by
     by_cases e:c t=[]
     ·exact e
     ·exact absurd ((YB t).2 ⟨h2,e⟩) h1
    rw[<- h3];exact h.sl t
   ·exact h.sl t
 ·unfold fG;split
  ·rfl
  ·exact h.lo t (by omega)
 ·refine oW (hl.1.sublist (List.take_sublist i l)) (λ k h1=>⟨(hl.2.1 k (ac9 h1)).1,Zo k h1⟩) (λ t ht=>?_);rw[YB];exact⟨λ h=>h.2,λ h=>⟨ht,h⟩⟩
theorem TicksL.all{l:List Int}(hl:TicksL c l)(hc:∀t,n<=t->c t=[]):qI c l=cf c n:=by
 refine oW hl.1 (λ k hk=>?_) (λ t ht=>hl.2.2 t);have h1:=hl.2.1 k hk;obtain⟨t,rfl⟩:∃t:Nat,k=(t:Int):=⟨k.toNat,by omega⟩;refine⟨h1.1,?_⟩
 by_cases e:t<n
 ·omega
 ·exact absurd (hc t (by omega)) ((hl.2.2 t).1 hk)
end
section
variable {bd:Int} {c:Nat->List Eff} {mb:Nat} {ks:List Int} {f:Int->Option Value} {Tm Pl:HL} {d i:Nat} {l ks':List Int} {f':Int->Option Value} {M:HL}
theorem BoardM.late(h:BoardM bd c mb ks f Tm Pl)(hd:(d:Int)<=bd):max bd (d:Int)=bd/\fG c d=c/\cf c d=[]:=by
 refine⟨by omega,?_,mw λ t ht=>h.lo t (by omega)⟩;funext t;unfold fG;split
 ·exact(h.lo t (by omega)).symm
 ·rfl
theorem s7{l:List Int}{i:Nat}(hi:i<l.length):l.take (i+1)=l.take i++[l.getD i 0]:=by
 rw[acQ hi];simp[hi]
theorem oX(hi:i<l.length):qI c (l.take (i+1))=qI c (l.take i)++c (l.getD i 0).toNat:=by rw[s7 hi,Ad]
theorem xh{B:Nat}(hB:∀t,(c t).length<=B):∀l:List Int,(qI c l).length<=B*l.length
 | []=>aaJ _
 |k::l=>by
  have h1:=xh hB l;have h2:=hB k.toNat
  show (c k.toNat++qI c l).length<=B*(l.length+1);rw[aaK,Nat.mul_add];omega
structure ConfI(d:Nat)(l ks:List Int)(f:Int->Option Value)(mb i:Nat)(ks':List Int)(f':Int->Option Value)(M:HL):Prop where
 le:i<=l.length
 lo:∀k∈l.take i,k<(d:Int)
 map:MapT (Value.int .i64) mb ks' f' M
 sub:∀k∈ks',k∈ks
 eq:∀k,f' k=if k∈l.take i then none else f k
theorem Af(hT:MapT (Value.int .i64) mb ks f M):ConfI d l ks f mb 0 ks f M:=⟨aaJ _,by simp,hT,λ k h=>h,λ k=>by simp⟩
theorem ConfI.next(h:ConfI d l ks f mb i ks' f' M)(hi:i<l.length)(hd:l.getD i 0<(d:Int)){M':HL}(hT:MapT (Value.int .i64) mb (ks'.filter (· ≠l.getD i 0)) (oS f' (l.getD i 0)) M'):ConfI d l ks f mb (i+1) (ks'.filter (· ≠l.getD i 0)) (oS f' (l.getD i 0)) M':=by
 refine⟨hi,λ k hk=>?_,hT,λ k hk=>h.sub k (adc.1 hk).1,λ k=>?_⟩
 ·rw[s7 hi] at hk;rcases np.1 hk with hk|hk
  ·exact h.lo k hk
  ·rw[eb.1 hk];exact hd
 ·unfold oS;rw[s7 hi,h.eq k]
  by_cases e:k=l.getD i 0
  ·rw[if_pos e,if_pos (aaz _ (eb.2 e))]
  ·rw[if_neg e]
   by_cases h1:k∈l.take i
   ·rw[if_pos h1,if_pos (aaB _ h1)]
   ·rw[if_neg h1,if_neg λ h2=>(np.1 h2).elim h1 λ h3=>e (eb.1 h3)]
theorem ConfI.look(h:ConfI d l ks f mb i ks' f' M)(hM:BoardM bd c mb ks f Tm Pl)(hl:TicksL c l)(hi:i<l.length):∃A n cc,(f' (l.getD i 0)).getD (.slice none 0 0)=.slice A n cc/\RowL aB 112 Pl A n (c (l.getD i 0).toNat):=by
 have e0:l.getD i 0=l[i]:=by simp[hi]
 have hm:l.getD i 0∈l:=by rw[e0];exact ac0 hi
 have hr:=hl.2.1 _ hm;have hn:¬ l.getD i 0∈l.take i:=λ h1=>by
  have h2:=hl.1;rw[<- abt i l] at h2;have h3:=(aff.1 h2).2.2 _ h1 (l.getD i 0) (by rw[eB hi,e0];exact aaC ..);omega
 rw[h.eq,if_neg hn];have h4:=(hM.sl (l.getD i 0).toNat).val;rwa [afp hr.1] at h4
theorem BoardM.look(hM:BoardM bd c mb ks f Tm Pl)(hl:TicksL c l)(hi:i<l.length):∃A n cc,(f (l.getD i 0)).getD (.slice none 0 0)=.slice A n cc/\RowL aB 112 Pl A n (c (l.getD i 0).toNat):=by
 have hr:=hl.2.1 (l.getD i 0) (by rw[show l.getD i 0=l[i] by simp[hi]];exact ac0 hi);have h4:=(hM.sl (l.getD i 0).toNat).val;rwa [afp hr.1] at h4
theorem ConfI.fin(h:ConfI d l ks f mb i ks' f' M)(hM:BoardM bd c mb ks f Tm Pl)(hl:TicksL c l)(he:i=l.length\/(d:Int)<=l.getD i 0):BoardM (max bd d) (fG c d) mb ks' f' M Pl/\qI c (l.take i)=cf c d:=by
 refine hM.conf hl h.le h.lo (λ k hk=>?_) h.map h.sub h.eq;rcases he with he|he
 ·rw[he,aco (aaI _)] at hk;cases hk
 ·by_cases hi:i<l.length
  ·have e0:l.getD i 0=l[i]:=by simp[hi]
   rw[eB hi,<- e0] at hk;have h2:=hl.1;rw[<- abt i l,eB hi,<- e0] at h2;rcases abL.1 hk with e|hk
   ·rw[e];exact he
   ·have:=(afE.1 (aff.1 h2).2.1).1 k hk;omega
  ·rw[aco (by omega)] at hk;cases hk
end
theorem Ag(ys:List Eff)(k:Nat)(hk:k<ys.length):(λ x=>if x=ys.getD k aB.dflt then (ys.take k).count (ys.getD k aB.dflt)+1 else (ys.take k).count x)=λ x=>(ys.take (k+1)).count x:=by
 funext x;have e:ys.getD k aB.dflt=ys[k]:=by simp[hk]
 rw[acQ hk,List.count_append,e]
 by_cases h:x=ys[k]
 ·subst h;simp
 ·rw[if_neg h,List.count_singleton];have:(ys[k] == x)=false:=by simpa using λ h'=>h h'.symm
  simp[this]
theorem Li{j:Nat}(hj:j<xs.length)(h:g (xs.getD j aB.dflt)>0):jI g (xs.drop j)=jI (oU g (xs.getD j aB.dflt)) (xs.drop (j+1)):=by
 have e:xs.getD j aB.dflt=xs[j]:=by simp[hj]
 rw[e] at h ⊢;rw[eB hj,jI,if_pos h]
theorem Qr{j:Nat}(hj:j<xs.length)(h:¬ g (xs.getD j aB.dflt)>0):jI g (xs.drop j)=xs.getD j aB.dflt::jI g (xs.drop (j+1)):=by
 have e:xs.getD j aB.dflt=xs[j]:=by simp[hj]
 rw[e] at h ⊢;rw[eB hj,jI,if_neg h]
theorem Ah(g:Eff->Nat)(l:List Eff):(jI g l).length<=l.length:=by have:=z8 l g;omega
structure EoI(bd:Nat)(c:Nat->List Eff)(sh en:Int)(q:Nat):Prop where
 lo:∀t,t<bd->c t=[]
 hi:∀t,60<=t->c t=[]
 sm:sh=en+((cf c 60).length:Int)
 le:∀t,(c t).length<=40
 nn:0<=en
 bq:sh<=40*(q:Int)
section
variable {bd:Nat} {c:Nat->List Eff} {sh en:Int} {q:Nat}
theorem Gx:EoI 0 (λ _=>[]) 0 0 0:=⟨λ t h=>rfl,λ t h=>rfl,by rw[mw λ t h=>rfl];rfl,λ t=>aaJ _,by omega,by omega⟩
theorem EoI.more(h:EoI bd c sh en q){q':Nat}(hq:q<=q'):EoI bd c sh en q':=⟨h.lo,h.hi,h.sm,h.le,h.nn,by have:=h.bq;omega⟩
theorem EoI.bds(h:EoI bd c sh en q):0<=en/\en<=sh/\sh<=40*(q:Int):=⟨h.nn,by have:=h.sm;omega,h.bq⟩
theorem EoI.show(h:EoI bd c sh en q){l:List Eff}(h1:bd<=t)(h2:t<60)(hl:l.length<=40):EoI bd (ff c t l) (sh+((jI (λ x=>(c t).count x) l).length:Int)) (en+((jI (λ x=>l.count x) (c t)).length:Int)) (q+1):=by
 have e1:=NI l (c t);have e2:=vC c t l h2;have e3:=Ah (λ x=>(c t).count x) l;have e4:=h.sm;have e5:=h.nn;have e6:=h.bq;refine⟨λ y hy=>?_,λ y hy=>?_,by omega,lO h.le hl t,by omega,by omega⟩
 ·unfold ff;rw[if_neg (by omega)];exact h.lo y hy
 ·unfold ff;rw[if_neg (by omega)];exact h.hi y hy
theorem EoI.conf(h:EoI bd c sh en q){d:Nat}(h1:bd<=d)(h2:d<=60):EoI d (fG c d) sh (en+((cf c d).length:Int)) q:=by
 have e2:=my c d h2;have e4:=h.sm;have e5:=h.nn;refine⟨λ y hy=>?_,λ y hy=>?_,by omega,Lh h.le d,by omega,h.bq⟩
 ·unfold fG;rw[if_pos hy]
 ·unfold fG;rw[if_neg (by omega)];exact h.hi y hy
end
section
variable {S:Setup} {J:Nat->Nat×Int} {w:Nat} {TR:Nat->List Inp} {P:PS (List Inp)} {V:List (List Inp)} {m k:Nat} {xs:List Int}
theorem PeerI.effAt(h:PeerI S J w TR P V m k)(ht:t<V.length):P.effs.getD t []=l7 (mu S.std (J t) (V.getD t [])) (kH (rG S.std J V) ⟨bz S S.nb,[],0⟩ t):=by
 have h1:=h.eff_next ht;have h2:nJ S J V (t+1)=nJ S J V t++l7 (mu S.std (J t) (V.getD t [])) (kH (rG S.std J V) ⟨bz S S.nb,[],0⟩ t):=rfl;exact List.append_cancel_left (h1.symm.trans h2)
theorem PeerI.effNum(h:PeerI S J w TR P V m k)(hV:SetV S)(hn:V.length<=50)(ht:t<V.length):(P.effs.getD t []).length<=40/\∀i,i<(P.effs.getD t []).length->((P.effs.getD t []).getD i aB.dflt).t=(t:Int):=by
 rw[h.effAt ht];have hV2:SetV S.std:=(f6 S).setV hV;have hr:∀i,i<V.length->RowOk S.std.players (V.getD i []):=λ i hi=>by rw[(f6 S).pl];exact h.ok _ (iI hi _)
 have hT:=zR hV2 (sV hV (f6 S)) (xss:=V) J hn hr t (by omega);have h1:=hr t ht;obtain⟨m2,a1,a2,a3,a4,a5,a6⟩:=Ot hV2 (g:=mu S.std (J t) (V.getD t [])) rfl (by have:=h1.1;show S.std.players<=((V.getD t []).length:Int);omega) (t:=(t:Int)) (by omega) hT;have hb:=(sT hV2).2;rw[(DJ (by omega) a2).2] at a4 a6;exact⟨by omega,λ i hi=>(a4 i hi).1⟩
theorem Ai{V2:List (List Inp)}(h:V.take n=V2.take n)(h1:n<=V.length)(h2:n<=V2.length):nJ S J V n=nJ S J V2 n:=by
 unfold nJ;rw[<- sX S J V n h1,<- sX S J V2 n h2,h]
theorem Lj{k:Nat}(h:n<=k):nJ S J (bB S.players xs n) n=nJ S J (bB S.players xs k) n :=
 Ai (by rw[pY h,WP (by rw[kK];exact aaI _)]) (by rw[kK];exact aaI _) (by rw[kK];exact h)
theorem PeerI.plConf(h:PeerI S J w (qt S xs) P V m k)(hr:P.rows.length<=60)(hn:n<=m):nJ S J V n=nJ S J (bB S.players xs 60) n:=by
 have h1:=h.inv.mV;have h2:=h.inv.mR;refine Ai ?_ (by omega) (by rw[kK];omega);have h3:=congrArg (List.take n) h.inv.eq;rw[adi,adi,adm hn,h.rowsR rfl,pY (by omega)] at h3;rw[h3,pY (by omega)]
theorem PeerI.fin26{P2:PS (List Inp)}{d k2 bd:Nat}{c:Nat->List Eff}(h:PeerI S J w TR P V m k)(h2:PeerI S J w (qt S xs) P2 V d k2)(hr:P2.rows.length<=60)(lo:∀t,t<bd->c t=[])(hc:∀t,bd<=t->t<V.length->c t=P.effs.getD t [])(hb:bd<=d):nJ S J (bB S.players xs 60) bd++cf c d=nJ S J (bB S.players xs 60) d:=by
 have hmV:=h2.inv.mV;have key:∀n,n<=d->nJ S J (bB S.players xs 60) bd++cf c n=nJ S J (bB S.players xs 60) (max bd n):=by
  intro n
  induction n with
  |zero=>intro _;rw[Nat.max_zero];exact acm _
  |succ n ih=>
   intro hn;rw[eh,<- aaF,ih (by omega)]
   by_cases e:n<bd
   ·rw[lo n e,acm];congr 1;omega
   ·rw[hc n (by omega) (by omega),show max bd n=n by omega,show max bd (n+1)=n+1 by omega,<- h2.plConf hr (n:=n) (by omega),<- h2.plConf hr (n:=n+1) hn,<- h.eff_next (by omega)]
 have:=key d (aaI _);rwa [show max bd d=d by omega] at this
end
theorem oY{B:Option Addr}{m:Nat} (ca cb:Nat){ys:List Eff}(ha:RowL aB 112 F A n xs)(hb:RowL aB 112 F B m ys)(hn:n<=1000000)(hm:m<=1000000):af1 36 #[.slice A n ca,.slice B m cb] (ap [] []) F (λ u H'=>∃x:Option Addr×Nat×HL,H'=ap [] [x.2.2]/\(u=.slice x.1 (jI (λ x=>ys.count x) xs).length x.2.1/\SlIs aB 112 (jI (λ x=>ys.count x) xs) x.1 x.2.1 x.2.2)):=by
 have anc:=ha.len;have am7:=hb.len;refine QG Tryz.func36<|ae 22 [] λ n1=>p9 0<|aan (σ:=Nat×HL) (λ ⟨k_,M_⟩=>⟨[(0,.slice A n ca),(5,.map (some (n1+0))),(14,.slice B m cb),(15,vI (m:Int)),(16,vI (k_:Int))],[],[M_],k_<=m/\CntT (n1+0) (λ x=>(ys.take k_).count x) M_,m-k_⟩) (0,[((n1+0),.obj (bG [] 0))]) [] [0] (⟨aaJ _,CntT.new _⟩) ?_;rintro⟨k_,M_⟩ ⟨XT,X6⟩ UC;refine OG 6<|aal ((k_:Int)<(m:Int)) 17 (λ h4=>?_) λ h4=>?_
 ·refine ae 7 [] λ _=>?_;obtain⟨qx5,oF,U5,fx5,XY,Un,UH,XR,UX⟩:=hb.at (k:=k_) (by omega);refine aw 14 (congrArg (λ v_=>(.slice v_ m cb:Value)) Un)<|RN.ro (λ _=>(mc UH mn))<|ah 2 [.ix k_,.rorow 0 (oF+k_) 0,.rorow 0 (oF+k_) 1,.rorow 0 (oF+k_) 2,.rorow 0 (oF+k_) 3] [((oF*4+k_*4)+3)=(oF+k_)*4+3/\(oF+k_)<U5,((oF*4+k_*4)+2)=(oF+k_)*4+2/\(oF+k_)<U5,((oF*4+k_*4)+1)=(oF+k_)*4+1/\(oF+k_)<U5,(oF*4+k_*4)=(oF+k_)*4+0/\(oF+k_)<U5,(k_:Int)=((k_:Nat):Int)/\k_<m] λ _=>aw 19 (congrArg (λ v_=>(.agg #[vI v_.t,vI v_.i,vI v_.k,vI v_.v]:Value)) UX) ?_;have aeP:(List.count (ys.getD k_ aB.dflt) (ys.take k_))<=1000000:=aeW List.count_le_length (by rw[aaN];omega);refine ae 4 (aab 4) λ n6=>aak [4,6] []<|af [] [0,1] (aab 4)<|fq 2 4 ?_ ?_
  ·refine rh (k:=(ys.getD k_ aB.dflt)) 0 X6<|aH [] [3] [.nw] [aX (((List.count (ys.getD k_ aB.dflt) (ys.take k_)):Int)+1)]<|aae 4 (ri (k:=(ys.getD k_ aB.dflt)) [] 0 X6 λ v7 b8 M9 VE=>?_);refine afZ [5]<|aae 6 (rj (n:=((List.count (ys.getD k_ aB.dflt) (ys.take k_))+1)) [] 0 VE (congrArg vI (show ((List.count (ys.getD k_ aB.dflt) (ys.take k_)):Int)+1=((((List.count (ys.getD k_ aB.dflt) (ys.take k_))+1):Nat):Int) by omega)) λ M11 Um=>?_);refine aad<|ah 6 [.nw] [aX ((k_:Int)+1)] λ _=>aw 14 (congrArg (λ v_=>(.slice v_ m cb:Value)) Un.symm)<|UC (k_+1,M11) [] [0] ?_
   try dsimp only
   exact⟨⟨by omega,Um.to (Ag ys k_ (by omega))⟩,by omega⟩
  ·refine ri (k:=(ys.getD k_ aB.dflt)) [] 0 X6 λ v13 b14 M15 Ul=>afZ [5]<|aae 2 (rh (k:=(ys.getD k_ aB.dflt)) 0 Ul.cnt ?_);refine aH [] [3] [.nw] [aX (((List.count (ys.getD k_ aB.dflt) (ys.take k_)):Int)+1)]<|aae 6 (rj (n:=((List.count (ys.getD k_ aB.dflt) (ys.take k_))+1)) [] 0 Ul (congrArg vI (show ((List.count (ys.getD k_ aB.dflt) (ys.take k_)):Int)+1=((((List.count (ys.getD k_ aB.dflt) (ys.take k_))+1):Nat):Int) by omega)) λ M17 Vd=>?_);refine aad<|ah 6 [.nw] [aX ((k_:Int)+1)] λ _=>aw 14 (congrArg (λ v_=>(.slice v_ m cb:Value)) Un.symm)<|UC (k_+1,M17) [] [0] ?_
   try dsimp only
   exact⟨⟨by omega,Vd.to (Ag ys k_ (by omega))⟩,by omega⟩
 ·refine OG 20<|aao ?_;have ajb:=X6.to (g':=λ x=>ys.count x) (by rw[WP (by omega)]);refine aan (σ:=Nat×(Eff->Nat)×List Eff×Option Addr×Nat×HL×HL) (λ ⟨j_,g_,d_,A_,c_,T_,M_⟩=>⟨[(5,.map (some (n1+0))),(8,.slice A_ d_.length c_),(27,.slice A n ca),(28,vI (n:Int)),(29,vI (j_:Int))],[],[T_,M_],j_<=n/\jI (λ x=>ys.count x) xs=d_++jI g_ (xs.drop j_)/\CntT (n1+0) g_ M_/\SlIs aB 112 d_ A_ c_ T_/\d_.length<=j_/\∀x,g_ x<=1000000,n-j_⟩) (0,λ x=>ys.count x,[],none,0,[],M_) [] [0,1] (⟨aaJ _,rfl,ajb,aas _ _,aaJ _,λ x=>aeW List.count_le_length (by omega)⟩) ?_;rintro⟨j_,g_,d_,A_,c_,T_,M_⟩ ⟨hj_,hd_,XD,IT,Xh,Z2⟩ abk;refine OG 6<|aal ((j_:Int)<(n:Int)) 30 (λ h21=>?_) λ h21=>?_
  ·refine ae 7 [] λ _=>?_;obtain⟨amC,Ut,aaE,apa,alE,XH,ad7,akJ,aeE⟩:=ha.at (k:=j_) (by omega);refine aw 27 (congrArg (λ v_=>(.slice v_ n ca:Value)) XH)<|RN.ro (λ _=>(mc ad7 mn))<|ah 2 [.ix j_,.rorow 0 (Ut+j_) 0,.rorow 0 (Ut+j_) 1,.rorow 0 (Ut+j_) 2,.rorow 0 (Ut+j_) 3] [((Ut*4+j_*4)+3)=(Ut+j_)*4+3/\(Ut+j_)<aaE,((Ut*4+j_*4)+2)=(Ut+j_)*4+2/\(Ut+j_)<aaE,((Ut*4+j_*4)+1)=(Ut+j_)*4+1/\(Ut+j_)<aaE,(Ut*4+j_*4)=(Ut+j_)*4+0/\(Ut+j_)<aaE,(j_:Int)=((j_:Nat):Int)/\j_<n] λ _=>aw 32 (congrArg (λ v_=>(.agg #[vI v_.t,vI v_.i,vI v_.k,vI v_.v]:Value)) aeE)<|ae 8 (ow 0 8) λ n23=>?_;have an6:=Z2 (xs.getD j_ aB.dflt);refine Qq (k:=(xs.getD j_ aB.dflt)) 1 XD<|OG 3<|aal ((g_ (xs.getD j_ aB.dflt):Int)>0) 36 (λ h24=>?_) λ h24=>?_
   ·refine OG 1<|aak [4,6] []<|af [] [0,1] (aab 4)<|fq 2 4 ?_ ?_
    ·refine rh (k:=(xs.getD j_ aB.dflt)) 1 XD<|aH [] [3] [.nw] [aX (((g_ (xs.getD j_ aB.dflt)):Int)-1)]<|aae 4 (ri (k:=(xs.getD j_ aB.dflt)) [] 1 XD λ v25 b26 M27 WN=>?_);refine afZ [5]<|aae 6 (rj (n:=((g_ (xs.getD j_ aB.dflt))-1)) [] 0 WN (congrArg vI (show ((g_ (xs.getD j_ aB.dflt)):Int)-1=((((g_ (xs.getD j_ aB.dflt))-1):Nat):Int) by omega)) λ M29 acr=>?_);refine aad<|ah 6 [.nw] [aX ((j_:Int)+1)] λ _=>aw 27 (congrArg (λ v_=>(.slice v_ n ca:Value)) XH.symm)<|abk (j_+1,oU g_ (xs.getD j_ aB.dflt),d_,A_,c_,T_,M29) [] [1,0] ?_
     try dsimp only
     exact⟨⟨by omega,by rw[hd_,Li (by omega) (by omega)],acr.to rfl,IT,by omega,Ac Z2⟩,by omega⟩
    ·refine ri (k:=(xs.getD j_ aB.dflt)) [] 1 XD λ v31 b32 M33 afb=>afZ [5]<|aae 2 (rh (k:=(xs.getD j_ aB.dflt)) 0 afb.cnt ?_);refine aH [] [3] [.nw] [aX (((g_ (xs.getD j_ aB.dflt)):Int)-1)]<|aae 6 (rj (n:=((g_ (xs.getD j_ aB.dflt))-1)) [] 0 afb (congrArg vI (show ((g_ (xs.getD j_ aB.dflt)):Int)-1=((((g_ (xs.getD j_ aB.dflt))-1):Nat):Int) by omega)) λ M35 aiR=>?_);refine aad<|ah 6 [.nw] [aX ((j_:Int)+1)] λ _=>aw 27 (congrArg (λ v_=>(.slice v_ n ca:Value)) XH.symm)<|abk (j_+1,oU g_ (xs.getD j_ aB.dflt),d_,A_,c_,T_,M35) [] [1,0] ?_
     try dsimp only
     exact⟨⟨by omega,by rw[hd_,Li (by omega) (by omega)],aiR.to rfl,IT,by omega,Ac Z2⟩,by omega⟩
   ·refine ae 5 (aab 4) λ n37=>gY fI [(xs.getD j_ aB.dflt)] 0 0 rfl IT (by simp only[pt];omega) ?_;rintro A38 c39 T40 ⟨ahf,amW⟩;refine ah 8 [.nw] [aX ((j_:Int)+1)] λ _=>aw 27 (congrArg (λ v_=>(.slice v_ n ca:Value)) XH.symm)<|aw 8 (congrArg (λ v_=>(.slice A38 v_ c39:Value)) (show d_.length+[(xs.getD j_ aB.dflt)].length=(d_++[(xs.getD j_ aB.dflt)]).length from List.length_append.symm))<|abk (j_+1,g_,d_++[(xs.getD j_ aB.dflt)],A38,c39,T40,M_) [] [0,1] ?_
    try dsimp only
    exact⟨⟨by omega,by rw[hd_,Qr (by omega) (by omega),aaF];rfl,XD,ahf,by simp only[aaK,pt];omega,Z2⟩,by omega⟩
  ·refine OG 12<|QI [] [] [0] (.slice A_ d_.length c_) (ap [] [T_]) ?_;have e_:jI (λ x=>ys.count x) xs=d_:=by rw[hd_,aco (by omega)];exact acm d_
   exact⟨(A_,c_,T_),rfl,by rw[e_],by rw[e_];exact IT⟩
theorem Aj:af1 9 #[] (ap [] []) F (λ u H'=>∃x:Nat×HL,H'=ap [] [x.2]/\(u=vP x.1 0/\fg x.1 0 (λ _=>[]) x.2)):=by
 refine QG Tryz.func9<|ae 13 [] λ n1=>QI [] [0,1] [] (vP (n1+1) 0) [((n1+1),.lit [.map (some (n1+0)),vI 0] 103 (0,0)),((n1+0),.obj (bG [] 0))] ⟨((n1+1),ap [((n1+1),.lit [.map (some (n1+0)),vI 0] 103 (0,0))] [[((n1+0),.obj (.map #[] 0))],[]]),rfl,rfl,_,_,_,_,_,rfl,xg⟩
theorem Gy(bb:Nat){c:Nat->List Eff}{ks:List Int}{f:Int->Option Value}{Tm Pl:HL} (cp:Nat){l:List Eff}(hM:BoardM bd c mb ks f Tm Pl)(hl:RowL aB 112 F A n l)(ht:t<6000)(hb:bd<=(t:Int))(hn:n<=40)(iN:∀i,i<n->(l.getD i aB.dflt).t=(t:Int))(hc:(c t).length<=1000000):af1 13 #[vP bb 0,vI (t:Int),.slice A n cp] (ap [(bb,.lit [.map (some mb),vI bd] 103 (0,0))] [Tm,Pl]) F (λ u H'=>∃x:(Option Addr×Nat×HL)×(Option Addr×Nat×HL)×HL,H'=ap [] [x.2.2,x.1.2.2,x.2.1.2.2]/\(u=.tuple #[.slice x.1.1 (jI (λ x=>(c t).count x) l).length x.1.2.1,.slice x.2.1.1 (jI (λ x=>l.count x) (c t)).length x.2.1.2.1,vI 0]/\SlIs aB 112 (jI (λ x=>(c t).count x) l) x.1.1 x.1.2.1 x.1.2.2/\SlIs aB 112 (jI (λ x=>l.count x) (c t)) x.2.1.1 x.2.1.2.1 x.2.1.2.2/\fg bb bd (ff c t l) x.2.2)):=by
 have ZQ:=hl.len;have aeo:n=l.length:=ZQ.symm;refine QF Tryz.func13 mn<|OG 13<|aal ((t:Int)<0) 14 (λ h1=>?_) λ h1=>?_
 ·(exfalso;omega)
 ·refine OG 5<|aal ((t:Int)>=6000) 17 (λ h2=>?_) λ h2=>?_
  ·(exfalso;omega)
  ·refine Sr 14 [.o 0]<|aal ((t:Int)<bd) 23 (λ h3=>?_) λ h3=>?_
   ·(exfalso;omega)
   ·refine OG 11<|aal ((n:Int)>40) 26 (λ h4=>?_) λ h4=>?_
    ·(exfalso;omega)
    ·refine OG 12<|aan (σ:=Nat) (λ k_=>⟨[(0,vP bb 0),(1,vI (t:Int)),(2,.slice A n cp),(27,.slice A n cp),(28,vI (n:Int)),(29,vI (k_:Int))],[(bb,.lit [.map (some mb),vI bd] 103 (0,0))],[Tm,Pl],k_<=n,n-k_⟩) 0 [0] [0,1] (aaJ _) ?_;rintro k_ XT Wx;refine OG 6<|aal ((k_:Int)<(n:Int)) 30 (λ h7=>?_) λ h7=>?_
     ·refine ae 7 [] λ _=>?_;obtain⟨qx8,WT,Nx8,fx8,ao5,afs,aho,anF,ah9⟩:=hl.at (k:=k_) (by omega);refine aw 27 (congrArg (λ v_=>(.slice v_ n cp:Value)) afs)<|RN.ro (λ _=>(mc aho mn))<|ah 2 [.ix k_,.rorow 0 (WT+k_) 0,.rorow 0 (WT+k_) 1,.rorow 0 (WT+k_) 2,.rorow 0 (WT+k_) 3] [((WT*4+k_*4)+3)=(WT+k_)*4+3/\(WT+k_)<Nx8,((WT*4+k_*4)+2)=(WT+k_)*4+2/\(WT+k_)<Nx8,((WT*4+k_*4)+1)=(WT+k_)*4+1/\(WT+k_)<Nx8,(WT*4+k_*4)=(WT+k_)*4+0/\(WT+k_)<Nx8,(k_:Int)=((k_:Nat):Int)/\k_<n] λ _=>aw 32 (congrArg (λ v_=>(.agg #[vI v_.t,vI v_.i,vI v_.k,vI v_.v]:Value)) ah9)<|ae 12 (ow 0 5) λ n9=>ci 36 (nt (abw (iN k_ (by omega))))<|ah 8 [.nw] [aX ((k_:Int)+1)] λ _=>aw 27 (congrArg (λ v_=>(.slice v_ n cp:Value)) afs.symm)<|Wx (k_+1) [1] [0,1] ?_
      try dsimp only
      exact⟨by omega,by omega⟩
     ·refine ae 13 [.o 0] λ _=>?_;obtain⟨Ao_,no_,co_,ev_,Vt⟩:=(hM.sl t).val;have aef:=Vt.len;refine xf (k:=(t:Int)) 0 Cw hM.map Tryz.underlying101 Lg ev_<|OG 11<|aal ((n:Int)>0) 46 (λ UE=>?_) λ UE=>?_
      ·refine OG 1<|aak [7] []<|af [] [0,4,5,1,2,3] [.o 0]<|aae 6 (QP [] (ke cp (hl.up.src fI (by decide)) (by omega)) ?_);rintro _ ⟨A11,c12,U2⟩ ⟨rfl,aeT⟩;dsimp only at aeT;refine aae 7 (NG (k:=(t:Int)) (v:=.slice A11 n c12) [] 1 Cw hM.map Tryz.underlying101 λ M15 Ul=>?_);refine QQ 5<|Ss (oY cp co_ hl.up (Vt.mono (ar 2)) (by omega) (by omega)) ?_;rintro _ ⟨Zy,Zg,Wv⟩ ⟨rfl,Xe⟩;dsimp only at Xe;refine OG 2<|Ss (oY co_ cp (Vt.mono (ar 3)) hl.up (by omega) (by omega)) ?_;rintro _ ⟨A21,c22,X1⟩ ⟨rfl,Xd⟩;dsimp only at Xd;refine OG 5<|QI [] [0] [2,3,4,1,0] (.tuple #[.slice Zy ((jI (λ x=>(c t).count x) l).length) Zg,.slice A21 ((jI (λ x=>l.count x) (c t)).length) c22,vI 0]) (ap [(bb,.lit [.map (some mb),vI bd] 103 (0,0))] [M15,U2,Pl,Wv,X1]) ⟨((Zy,Zg,Wv),(A21,c22,X1),ap [(bb,.lit [.map (some mb),vI bd] 103 (0,0))] [M15,U2++Pl]),by simp[ap],rfl,Xe,Xd,_,_,_,_,_,rfl,(hM.show ht hb (λ h_=>by rw[h_] at ZQ;simp at ZQ;omega) ZQ (aeT.rowL λ x hx=>hx) Ul)⟩
      ·refine ae 7 [.o 0] λ _=>?_;have ZY:l=[]:=aa6 (by omega);refine Ld (k:=(t:Int)) 0 Cw hM.map Tryz.underlying101 λ M25 Xp=>OG 6<|Ss (oY cp co_ hl.up (Vt.mono (ar 1)) (by omega) (by omega)) ?_;rintro _ ⟨A27,c28,T29⟩ ⟨rfl,ad0⟩;dsimp only at ad0;refine OG 2<|Ss (oY co_ cp (Vt.mono (ar 2)) hl.up (by omega) (by omega)) ?_;rintro _ ⟨A31,c32,T33⟩ ⟨rfl,ZK⟩;dsimp only at ZK;refine OG 5<|QI [] [0] [2,3,1,0] (.tuple #[.slice A27 ((jI (λ x=>(c t).count x) l).length) c28,.slice A31 ((jI (λ x=>l.count x) (c t)).length) c32,vI 0]) (ap [(bb,.lit [.map (some mb),vI bd] 103 (0,0))] [M25,Pl,T29,T33]) ⟨((A27,c28,T29),(A31,c32,T33),ap [(bb,.lit [.map (some mb),vI bd] 103 (0,0))] [M25,Pl]),by simp[ap],rfl,ad0,ZK,_,_,_,_,_,rfl,(by rw[ZY];exact hM.hide Xp)⟩
theorem Cx{f:FuncId}{H H':HL}{R:Value->HL->Prop}(e:H=H')(h:Sp P f a H' F R):Sp P f a H F R:=e▸h
theorem D7{f:FuncId}{v:Value}(h:Sp P f a [] F (λ u H'=>u=v/\H'=[])):Sp P f a (ap [] []) F (λ u H'=>∃_:Unit,H'=ap [] []/\u=v):=h.mono λ u H' q=>⟨(),q.2,q.1⟩
theorem p4{bb:Nat}{c:Nat->List Eff}{G:HL}(h:fg bb bd c G)(t:Nat) (cp:Nat){l:List Eff} (hl:RowL aB 112 F A n l) (ht:t<6000) (hb:bd<=(t:Int)) (hn:n<=40) (iN:∀i,i<n->(l.getD i aB.dflt).t=(t:Int)) (hc:(c t).length<=1000000):af1 13 #[vP bb 0,vI (t:Int),.slice A n cp] (ap [] [G]) F (λ u H'=>∃x:(Option Addr×Nat×HL)×(Option Addr×Nat×HL)×HL,H'=ap [] [x.2.2,x.1.2.2,x.2.1.2.2]/\(u=.tuple #[.slice x.1.1 (jI (λ x=>(c t).count x) l).length x.1.2.1,.slice x.2.1.1 (jI (λ x=>l.count x) (c t)).length x.2.1.2.1,vI 0]/\SlIs aB 112 (jI (λ x=>(c t).count x) l) x.1.1 x.1.2.1 x.1.2.2/\SlIs aB 112 (jI (λ x=>l.count x) (c t)) x.2.1.1 x.2.1.2.1 x.2.1.2.2/\fg bb bd (ff c t l) x.2.2)):=by
 obtain⟨mb,ks,f,Tm,Pl,rfl,hM⟩:=h;exact Cx (bm) (Gy bb cp hM hl ht hb hn iN hc)
end Go.Proofs.YtjokannbjmndfaaGreatDoor
namespace Go.Proofs
open Go.Shelf
def lP:Go.Shelf.Ren:=⟨λ|7=>65|10=>100|n=>n,λ|23=>101|26=>3|3=>45|28=>155|0=>0|27=>154|33=>192|4=>4|n=>n,λ|n=>n⟩
theorem Cy:Go.Proofs.SlLaysZI.n7 Tryz.prog lP:={
 mixed:=by kernel_rfl
 f7:=⟨Tryz.f65.name,by decide,Tryz.func65.trans (congrArg some (by kernel_rfl))⟩
 f10:=⟨Tryz.f100.name,by decide,Tryz.func100.trans (congrArg some (by kernel_rfl))⟩
 t0:=Tryz.underlying0
 a0:=Tryz.isAgg0
 z0:=Tryz.sizeOf0
 v0:=Tryz.zeroValue0
 t4:=Tryz.underlying4
 a4:=Tryz.isAgg4
 z4:=Tryz.sizeOf4
 v4:=Tryz.zeroValue4
 t23:=Tryz.underlying101
 a23:=Tryz.isAgg101
 z23:=Tryz.sizeOf101
 v23:=Tryz.zeroValue101
 t26:=Tryz.underlying3
 a26:=Tryz.isAgg3
 z26:=Tryz.sizeOf3
 v26:=Tryz.zeroValue3
 t27:=Tryz.underlying154
 a27:=Tryz.isAgg154
 z27:=Tryz.sizeOf154
 v27:=Tryz.zeroValue154
 t28:=Tryz.underlying155
 a28:=Tryz.isAgg155
 z28:=Tryz.sizeOf155
 v28:=Tryz.zeroValue155
 t33:=Tryz.underlying192
 a33:=Tryz.isAgg192
 z33:=Tryz.sizeOf192
 v33:=Tryz.zeroValue192 }
def oZ:Go.Shelf.Ren:=⟨λ|8=>64|11=>99|n=>n,λ|26=>3|28=>155|24=>22|0=>0|33=>192|4=>4|n=>n,λ|n=>n⟩
theorem tU:Go.Proofs.SlLaysZI.n8 Tryz.prog oZ:={
 mixed:=by kernel_rfl
 f8:=⟨Tryz.f64.name,by decide,Tryz.func64.trans (congrArg some (by kernel_rfl))⟩
 f11:=⟨Tryz.f99.name,by decide,Tryz.func99.trans (congrArg some (by kernel_rfl))⟩
 t0:=Tryz.underlying0
 a0:=Tryz.isAgg0
 z0:=Tryz.sizeOf0
 v0:=Tryz.zeroValue0
 t24:=Tryz.underlying22
 a24:=Tryz.isAgg22
 z24:=Tryz.sizeOf22
 v24:=Tryz.zeroValue22
 t26:=Tryz.underlying3
 a26:=Tryz.isAgg3
 z26:=Tryz.sizeOf3
 v26:=Tryz.zeroValue3
 t28:=Tryz.underlying155
 a28:=Tryz.isAgg155
 z28:=Tryz.sizeOf155
 v28:=Tryz.zeroValue155
 i26:=by kernel_rfl }
end Go.Proofs
namespace Go.Proofs.YtjokannbjmndfaaGreatDoor
end Go.Proofs.YtjokannbjmndfaaGreatDoor
