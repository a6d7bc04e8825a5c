import Derived.Test.YtjokannbjmndfaaGreatDoorZ29
import Derived.Test.YtjokannbjmndfaaGreatDoorZ30
import Derived.Test.YtjokannbjmndfaaGreatDoorProg
import Derived.Test.YtjokannbjmndfaaGreatDoorZ22
import Derived.Test.YtjokannbjmndfaaGreatDoorZ07
import Derived.RecoverIn
set_option linter.all false
set_option maxHeartbeats 4000000
set_option maxRecDepth 100000
namespace Go.Proofs.YtjokannbjmndfaaGreatDoor
open Go.RowKit
variable {F:HL} {H:AH} {P:Program} {j:Nat} {ν:Nu}
noncomputable section
def wI(ν:Nu)(h:Nat):Nat:=match ν h with
 |some (b,_)=>b
 |none=>0
def TK(ν:Nu)(h c:Nat):Nat:=match Nat.blt c l9 with
 |true=>c
 |false=>match ν h with
  |some (_,K)=>K-(c-l9)
  |none=>0
mutual
def mF(ν:Nu):Value->Value
 | .pointer (some a)=>.pointer (some ⟨wI ν a.block,a.off,none⟩)
 | .slice (some a) n c=>.slice (some ⟨wI ν a.block,a.off,none⟩) n (TK ν a.block c)
 | .map (some h)=>.map (some (wI ν h))
 | .iface t v=>.iface t (mF ν v)
 | .agg c=>.agg (JU ν c)
 | .tuple c=>.tuple (JU ν c)
 |v=>v
def JU(ν:Nu):Array Value->Array Value
 | ⟨l⟩=>⟨JV ν l⟩
def JV(ν:Nu):List Value->List Value
 | []=>[]
 |v::l=>mF ν v::JV ν l
end
mutual
def sL:Value->Bool
 | .iface _ v=>sL v
 | .func f a c=>pl (.func f a c)
 | .agg c=>SJ c
 | .tuple c=>SJ c
 | .chan _=>false
 |_=>true
def SJ:Array Value->Bool
 | ⟨l⟩=>PX l
def PX:List Value->Bool
 | []=>true
 |v::l=>match sL v with
  |true=>PX l
  |false=>false
end
theorem wJ{ν:Nu}:∀ {l l':List Value},l.length=l'.length->(∀ (i:Nat) (v v':Value),l[i]?=some v->l'[i]?=some v'->sL v=true->v'=mF ν v)->PX l=true->l'=JV ν l
 | [],[],_,_,_=>rfl
 | [],_::_,e,_,_=>by simp at e
 |_::_,[],e,_,_=>by simp at e
 |v::l,v'::l',e,h,ho=>by
  rw[PX] at ho;cases hv:sL v with
  |false=>rw[hv] at ho;cases ho
  |true=>
   rw[hv] at ho;have a1:=h 0 v v' rfl rfl hv;have a2:=wJ (l:=l) (l':=l') (by simpa using e) (λ i a b h1 h2=>h (i+1) a b (by simpa using h1) (by simpa using h2)) ho;rw[JV,<- a1,<- a2]
theorem DD{v v':Value}(h:VRi ν v v'):sL v=true->v'=mF ν v:=by
 induction h with
 |atom v h=>
  intro _;cases v with
  |pointer a=>cases a with
   |none=>rfl
   |some a=>simp[cq] at h
  |slice a n c=>cases a with
   |none=>rfl
   |some a=>simp[cq] at h
  |map r=>cases r with
   |none=>rfl
   |some r=>simp[cq] at h
  |iface t v=>simp[cq] at h
  |agg c=>simp[cq] at h
  |tuple c=>simp[cq] at h
  |_=>rfl
 |ptr o h=>intro _;simp[mF,wI,h]
 | @slice hd b K c c' o n h hc=>
  intro _;simp only[mF,wI,TK,h];congr 1;cases hb:Nat.blt c l9 with
  |true=>exact hc.1 (Eq.mp Nat.blt_eq hb)
  |false=>
   have h2:=hc.2 (kX hb);simp only;omega
 |map h=>intro _;simp[mF,wI,h]
 |func hf e1 h1 e2 h2 _ _=>
  intro ho;have:=VRi.plain_eq (VRi.func hf e1 h1 e2 h2) (by simpa only[sL] using ho);rw[this];rfl
 |iface t _ ih=>intro ho;rw[mF,<- ih (by simpa only[sL] using ho)]
 | @agg c c' e _ ih=>
  intro ho;obtain⟨l⟩:=c;obtain⟨l'⟩:=c';simp only[acY] at ih;rw[mF,JU,wJ (l:=l) (l':=l') e ih (by simpa only[sL,SJ] using ho)]
 | @tuple c c' e _ ih=>
  intro ho;obtain⟨l⟩:=c;obtain⟨l'⟩:=c';simp only[acY] at ih;rw[mF,JU,wJ (l:=l) (l':=l') e ih (by simpa only[sL,SJ] using ho)]
theorem MN{l l':List Value}(h:LR ν l l'):PX l=true->l'=l.map (mF ν):=by
 induction h with
 |nil=>intro _;rfl
 | @cons v v' l l' h _ ih=>
  intro ho;rw[PX] at ho;cases hv:sL v with
  |false=>rw[hv] at ho;cases ho
  |true=>
   rw[hv] at ho;rw[acF,DD h hv,ih ho]
abbrev PB:=Nat×List Value×TypeId
def MO(H:AH)(p:PB):Bool:=match bS H p.1 with
 |some (.cells n t ty _ _)=>match Nat.beq n (gv p.2.1),Nat.beq ty p.2.2 with
  |true,true=>match qG (gR t 0 n) p.2.1 with
   |true=>PX p.2.1
   |false=>false
  |_,_=>false
 |_=>false
def DE(H:AH):List PB->Bool
 | []=>true
 |p::l=>match MO H p with
  |true=>DE H l
  |false=>false
def pM(ν:Nu)(w:World)(p:PB):List Value:=match w.heap[wI ν p.1]? with
 |some (.cells c _ _)=>c.toList.drop p.2.1.length
 |_=>[]
def sM(ν:Nu)(rest:PB->List Value)(p:PB):Nat×Blk:=(wI ν p.1,.lit (p.2.1.map (mF ν)++rest p) p.2.2 (0,0))
theorem DF(l l':List Value)(h:qG l l'=true):l=l':=by
 induction l generalizing l' with
 |nil=>cases l' with
  |nil=>rfl
  |cons v l'=>simp[qG] at h
 |cons v l ih=>cases l' with
  |nil=>simp[qG] at h
  |cons v' l'=>
   rw[qG] at h;cases hv:tn v v' with
   |false=>rw[hv] at h;cases h
   |true=>rw[hv] at h;rw[B7 _ _ hv,ih _ h]
theorem JW{w:World}(hH:HR ν H F w){p:PB}(hc:MO H p=true) :
  (∃K,ν p.1=some (wI ν p.1,K))/\(∃b,bS H p.1=some b)/\w.heap[wI ν p.1]?=some (sM ν (pM ν w) p).2.den:=by
 unfold MO at hc;split at hc
 case h_2=>cases hc
 rename_i n t ty ww ro hb;split at hc
 case h_2=>cases hc
 rename_i e1 e2;have e1:=abd e1;have e2:=abd e2;split at hc
 case h_2=>cases hc
 rename_i e3;have e3:=DF _ _ e3;obtain⟨r,K,o,h1,h2,h3⟩:=hH.blk _ _ hb;have hn:wI ν p.1=r:=by simp[wI,h1]
 have hcc:=hH.cells hb h1;obtain⟨c,ty',fz,g1,g2⟩:=hcc;refine⟨⟨K,by rw[hn];exact h1⟩,⟨_,hb⟩,?_⟩;rw[hn,g1];have hr:=j0 g2.le g2.get n 0 (by omega);rw[e3] at hr;have hl:=MN hr hc;rw[dU] at e1;simp only[sM,Blk.den,pM,hn,g1,g2.ty,g2.fz,<- e2];congr 2;apply Array.ext';simp only;rw[<- hl,adq,<- e1,abt]
def zD:List PB->AH
 | []=>.lf
 |p::l=>cJ (zD l) p.1 (some (.cells (gv p.2.1) (dE undef p.2.1 0 .lf) p.2.2 1 true))
def zE(tabs:List PB)(G:Nat):Nu:=λ h=>if h<G then some (h,match tabs.find? (λ p=>p.1 == h) with|some p=>p.2.1.length|none=>0) else none
def oD(p:PB):Nat×Blk:=(p.1,.lit p.2.1 p.2.2 (0,0))
def zF(G:Nat):List PB->Bool
 | []=>true
 |p::l=>match Nat.blt p.1 G,yP p.2.1,l.any (λ q=>q.1 == p.1) with
  |true,true,false=>zF G l
  |_,_,_=>false
end
noncomputable section
theorem DG:∀ (tabs:List PB) (h:Nat),bS (zD tabs) h=match tabs.find? (λ p=>p.1 == h) with
  |some p=>some (.cells (gv p.2.1) (dE undef p.2.1 0 .lf) p.2.2 1 true)
  |none=>none
 | [],h=>BU
 |p::l,h=>by
  rw[zD,dt,DG l h]
  by_cases e:p.1=h
  ·rw[if_pos e,List.find?_cons_of_pos (by simpa using e)]
  ·rw[if_neg e,List.find?_cons_of_neg (by simpa using e)]
theorem mr{G:Nat}:∀ {tabs:List PB},zF G tabs=true->∀p∈tabs,p.1<G/\yP p.2.1=true
 | [],_,p,hp=>by simp at hp
 |q::l,h,p,hp=>by
  rw[zF] at h;split at h
  ·rename_i h1 h2 h3;rcases abL.1 hp with rfl|hp
   ·exact⟨Eq.mp Nat.blt_eq h1,h2⟩
   ·exact mr h p hp
  ·cases h
theorem DH:∀ {l:List Value},yP l=true->∀ {i:Nat} {v:Value},l[i]?=some v->pl v=true
 | [],_,i,v,h=>by simp at h
 |x::l,hp,i,v,h=>by
  rw[yP] at hp;split at hp
  ·rename_i hx;cases i with
   |zero=>simp at h;rw[<- h];exact hx
   |succ i=>exact DH hp (by simpa using h)
  ·cases hp
theorem pN{tabs:List PB}{h:Nat}{p:PB}(e:tabs.find? (λ p=>p.1 == h)=some p):p∈tabs/\p.1=h :=
 ⟨List.mem_of_find?_eq_some e,by simpa using List.find?_some e⟩
section
variable {tabs picks:List PB} {G:Nat} {F:HL} {w:World}
theorem PY(ht:zF G tabs=true)(hR:Rel (tabs.map oD++F) w):HR (zE tabs G) (zD tabs) F w:=by
 have key:∀h b,bS (zD tabs) h=some b->∃p,tabs.find? (λ p=>p.1 == h)=some p/\b=.cells (gv p.2.1) (dE undef p.2.1 0 .lf) p.2.2 1 true:=λ h b hb=>by
  rw[DG] at hb;split at hb
  ·rename_i p hp;cases hb;exact⟨p,hp,rfl⟩
  ·cases hb
 refine⟨λ h b hb=>?_,λ h₁ h₂ b₁ b₂ r K₁ K₂ _ _ e1 e2=>?_,λ x hx=>hR.holds x (aaz _ hx),λ h b r K hb e1 x hx=>?_⟩
 ·obtain⟨p,hp,rfl⟩:=key h b hb;obtain⟨hm,rfl⟩:=pN hp;obtain⟨iN,hpl⟩:=mr ht p hm;refine⟨p.1,p.2.1.length,.cells ⟨p.2.1⟩ p.2.2 (0,0),by simp only[zE,if_pos iN,hp],?_,?_⟩
  ·exact hR.holds (oD p) (aaB _ (abY.2 ⟨p,hm,rfl⟩))
  ·refine⟨rfl,by rw[dU];exact aaI _,rfl,λ i hi=>?_,λ _=>by simp⟩;rw[dU] at hi;refine⟨p.2.1[i],by simp[hi],?_⟩;rw[lH hi];exact VRi.plain_refl _ (DH hpl (aa1 hi))
 ·unfold zE at e1 e2;split at e1
  ·split at e2
   ·simp only[de,df] at e1 e2;rw[e1.1,e2.1]
   ·cases e2
  ·cases e1
 ·obtain⟨p,hp,rfl⟩:=key h b hb;obtain⟨hm,rfl⟩:=pN hp;have hr:r=p.1:=by
   unfold zE at e1;split at e1
   ·simp only[de,df] at e1;exact e1.1.symm
   ·cases e1
  intro e;have hn:=hR.nodup;rw[acl,ada] at hn;exact hn.2.2 p.1 (by rw[afC];exact abY.2 ⟨p,hm,rfl⟩) x.1 (abY.2 ⟨x,hx,rfl⟩) (by rw[e,hr])
def MP(H:AH)(p:PB):Bool:=match bS H p.1 with
 |some (.cells n t ty ww _)=>match Nat.beq n (gv p.2.1),Nat.beq ty p.2.2,Nat.beq ww 1 with
  |true,true,true=>qG (gR t 0 n) p.2.1
  |_,_,_=>false
 |_=>false
def DI(H:AH):List PB->Bool
 | []=>true
 |p::l=>match MP H p with
  |true=>DI H l
  |false=>false
theorem vg{H:AH}:∀ {l:List PB},DI H l=true->∀p∈l,MP H p=true
 | [],_,p,hp=>by simp at hp
 |q::l,h,p,hp=>by
  rw[DI] at h;split at h
  ·rename_i h1;rcases abL.1 hp with rfl|hp
   ·exact h1
   ·exact vg h p hp
  ·cases h
theorem vh{H:AH}:∀ {l:List PB},DE H l=true->∀p∈l,MO H p=true
 | [],_,p,hp=>by simp at hp
 |q::l,h,p,hp=>by
  rw[DE] at h;split at h
  ·rename_i h1;rcases abL.1 hp with rfl|hp
   ·exact h1
   ·exact vh h p hp
  ·cases h
theorem LR.plain_eq{l l':List Value}(h:LR ν l l'):yP l=true->l'=l:=by
 induction h with
 |nil=>intro _;rfl
 | @cons v v' l l' h _ ih=>
  intro hp;rw[yP] at hp;split at hp
  ·rename_i hv;rw[VRi.plain_eq h hv,ih hp]
  ·cases hp
theorem MQ(hH:HR ν H F w){p:PB}(hc:MP H p=true)(hp:yP p.2.1=true)(hν:ν p.1=some (p.1,p.2.1.length)):w.heap[p.1]?=some (oD p).2.den/\∃b,bS H p.1=some b:=by
 unfold MP at hc;split at hc
 case h_2=>cases hc
 rename_i n t ty ww ro hb;split at hc
 case h_2=>cases hc
 rename_i e1 e2 e3;have e1:=abd e1;have e2:=abd e2;have e3:=abd e3;have e4:=DF _ _ hc;obtain⟨c,ty',fz,g1,g2⟩:=hH.cells hb hν;refine⟨?_,_,hb⟩;have hr:=j0 g2.le g2.get n 0 (by omega);rw[e4] at hr;have hl:=hr.plain_eq hp;have L_:=g2.gr (by omega);rw[e3,Nat.mul_one] at L_;rw[dU] at e1;rw[g1,g2.ty,g2.fz,e2];simp only[oD,Blk.den];congr 2;apply Array.ext';rw[adq] at hl;rw[<- hl,WP];have:c.toList.length=c.size:=rfl;omega
theorem sN:∀ {l:List PB},(l.map (·.1)).Nodup->∀ {p q:PB},p∈l->q∈l->q.1=p.1->q=p
 | [],_,p,q,hp,_,_=>by simp at hp
 |x::l,hd,p,q,hp,hq,e=>by
  simp only[acF,acX] at hd;rcases abL.1 hp with h1|h1 <;> rcases abL.1 hq with h2|h2
  ·rw[h1,h2]
  ·exact absurd (abY.2 ⟨q,h2,by rw[e,h1]⟩) hd.1
  ·exact absurd (abY.2 ⟨p,h1,by rw[<- e,h2]⟩) hd.1
  ·exact sN hd.2 h1 h2 e
def PZ(tabs picks:List PB)(v0:Value):Option Rs->Bool
 |some (.fn v H _)=>match tn v v0,sL v0,DI H tabs with
  |true,true,true=>DE H picks
  |_,_,_=>false
 |_=>false
theorem LR.plain_refl{ν:Nu}:∀ {l:List Value},yP l=true->LR ν l l
 | [],_=>.nil
 |v::l,h=>by
  rw[yP] at h;split at h
  ·rename_i hv;exact .cons (VRi.plain_refl v hv) (LR.plain_refl h)
  ·cases h
theorem vi(hm:P.follows .mixedOrders=true){k n0:Nat}{f:FuncId}{args:List Value}{v0:Value}(hG:Nat.ble G n0=true)(ht:zF G tabs=true)(ha:yP args=true)
  (Vj:(tabs.map (·.1)++picks.map (·.1)).Nodup) (iO:PZ tabs picks v0 (JT P G k (.fn f args (zD tabs) n0))=true) :
  Sp P f ⟨args⟩ (tabs.map oD) F λ v' H'=>∃ν rest,v'=mF ν v0/\H'=tabs.map oD++picks.map (sM ν rest):=by
 intro w hR;have hG:=bK hG;cases Wb:JT P G k (.fn f args (zD tabs) n0) with
 |none=>rw[Wb] at iO;cases iO
 |some res=>cases res with
  |cd e s=>rw[Wb] at iO;cases iO
  |fn v H n'=>
   rw[Wb] at iO;simp only[PZ] at iO;split at iO
   case h_2=>cases iO
   rename_i q1 q2 q3;rw[DC] at Wb;obtain⟨hn,Vz⟩:=Dn hm k _ _ Wb;have iN:∀p∈tabs,p.1<G:=λ p hp=>(mr ht p hp).1;refine(Vz (zE tabs G) F w args (λ k hk=>⟨_,if_pos hk⟩) (λ h h1 h2=>by simp only[zE];rw[if_neg (by omega)]) (PY ht hR) (LR.plain_refl ha)).mono ?_;rintro e w' ⟨ν,v',rfl,hv,aie,hH,aiE⟩;rw[B7 _ _ q1] at hv;have hνt:∀p∈tabs,ν p.1=zE tabs G p.1:=λ p hp=>aie.out _ (.inl (by have:=iN p hp;omega));have WK:∀p∈tabs,ν p.1=some (p.1,p.2.1.length):=λ p hp=>by
    rw[hνt p hp];simp only[zE,if_pos (iN p hp)];congr 2;have hd:(tabs.map (·.1)).Nodup:=(ada.1 Vj).1;cases hf:tabs.find? (λ q=>q.1 == p.1) with
    |none=>exact absurd (List.find?_eq_none.1 hf p hp) (by simp)
    |some q=>
     obtain⟨hq,UD⟩:=pN hf;have:q=p:=sN hd hp hq UD;simp[this]
   have adS:∀p∈tabs,w'.heap[p.1]?=some (oD p).2.den/\∃b,bS H p.1=some b:=λ p hp=>MQ hH (vg q3 p hp) (mr ht p hp).2 (WK p hp);have hpk:∀p∈picks,(∃K,ν p.1=some (wI ν p.1,K))/\(∃b,bS H p.1=some b)/\w'.heap[wI ν p.1]?=some (sM ν (pM ν w') p).2.den:=λ p hp=>JW hH (vh iO p hp);refine⟨v',tabs.map oD++picks.map (sM ν (pM ν w')),rfl,⟨ν,pM ν w',DD hv q2,rfl⟩,⟨?_,?_⟩,aiE⟩
   ·intro x hx;rcases np.1 hx with hx|hx
    ·rcases np.1 hx with hx|hx
     ·obtain⟨p,hp,rfl⟩:=abY.1 hx;exact(adS p hp).1
     ·obtain⟨p,hp,rfl⟩:=abY.1 hx;exact(hpk p hp).2.2
    ·exact hH.frm x hx
   ·-- the ae6 blocks
    have IS:∀h∈tabs.map (·.1)++picks.map (·.1),∃K b,ν h=some (wI ν h,K)/\bS H h=some b:=λ h hh=>by
     rcases np.1 hh with hh|hh
     ·obtain⟨p,hp,rfl⟩:=abY.1 hh;obtain⟨b,hb⟩:=(adS p hp).2;exact⟨p.2.1.length,b,by simp[wI,WK p hp],hb⟩
     ·obtain⟨p,hp,rfl⟩:=abY.1 hh;obtain⟨⟨K,h1⟩,⟨b,hb⟩,-⟩:=hpk p hp;exact⟨K,b,h1,hb⟩
    have e1:(tabs.map oD++picks.map (sM ν (pM ν w'))).map (·.1)=(tabs.map (·.1)++picks.map (·.1)).map (wI ν):=by
     simp only[acl,afC];congr 1;apply adB;intro p hp;simp[oD,wI,WK p hp]
    rw[acl,ada,e1];refine⟨?_,?_,λ a ha b hb=>?_⟩
    ·rw[List.Nodup,acV];refine(List.pairwise_iff_forall_sublist.2 λ {a b} hs=>?_);have ha':=IS a (hs.subset (by simp));have VB:=IS b (hs.subset (by simp));obtain⟨K1,b1,x1,x2⟩:=ha';obtain⟨K2,b2,y1,y2⟩:=VB;intro e;have hab:a=b:=hH.inj _ _ _ _ _ _ _ x2 y2 x1 (by rw[e];exact y1);have:=Vj.sublist hs;simp[hab] at this
    ·have:=hR.nodup;rw[acl,ada] at this;exact this.2.1
    ·obtain⟨h,hh,rfl⟩:=abY.1 ha;obtain⟨x,hx,rfl⟩:=abY.1 hb;obtain⟨K,b,g1,g2⟩:=IS h hh;exact(hH.apt _ _ _ _ g2 g1 x hx).symm
end
end
theorem JX{f:FuncId}{args:Array Value}{x:Nat×Blk}{Q:Value->HL->Prop}(hx:x∈F)(h:∀F0,Sp P f args [x] F0 λ u H'=>∃Hp,Q u Hp/\H'=[x]++Hp):Sp P f args [] F Q:=by
 obtain⟨l1,l2,rfl⟩:=List.append_of_mem hx;have hp:∀H:HL,([x]++H++(l1++l2)).Perm (H++(l1++x::l2)):=λ H=>by
  refine List.Perm.trans ?_ (ab0 H abH.symm);show (x::(H++(l1++l2))).Perm (H++x::(l1++l2));exact abH.symm
 intro w hR;have V6:Rel ([x]++(l1++l2)) w:=hR.perm (by have:=hp [];simpa using this);refine(h (l1++l2) w V6).mono ?_;rintro e w' ⟨v,H',he,⟨Hp,hq,rfl⟩,IF,hb⟩;exact⟨v,Hp,he,hq,IF.perm (hp Hp).symm,hb⟩
noncomputable section
def iv(x:Int):Value:=.int .i64 x
def wK:List Value:=[iv 0,iv 0,iv 0,iv 1,iv 0,iv 1,iv 1,iv 0,iv 1,iv 1,iv 2,iv 0,iv 0,iv 1,iv 0,iv 1,iv 0,iv 1,iv 2,iv 1,iv 2,iv 1,iv 2,iv 1,iv 2,iv 1,iv 1,iv 1,iv 2,iv 1,iv 2,iv 1,iv 2,iv 1,iv 1,iv 1,iv 0,iv 0,iv 1,iv 0,iv 2,iv 0,iv 0,iv 0]
def mS:List PB:=[(0,wK,232)]
def R0:String:="on tick { n = n + 1; if n >= 3 { effect 1, n; n = 0; } }"
def R1:String:="on act { vx[self] = vx[self] + 100 * other; effect 2, self; } on hit { a[self] = a[self] + 1; effect 3, other; }"
def R3:String:="on hit { if hit[other] == self + 1 && a[self] < a[other] { vx[self] = -vx[self]; b[self] = tick; } else { stop; } effect 4, a[self]; }"
def R4:String:="on tick { i = 0; while i < 4 { b[i] = b[i] + still[i]; i = i + 1; } s = s + x[0] / 100; effect 5, s; } on act { s = 0; }"
def R5:List Value:=[iv 2,iv 0,iv 1,iv 1,iv 9,iv 0,iv 3,iv 0,iv 1,iv 3,iv 2,iv 0,iv 15,iv 0,iv 19,iv 14,iv 1,iv 1,iv 2,iv 0,iv 20,iv 0,iv 1,iv 0,iv 3,iv 0,iv 18,iv 14,iv 21,iv 0]
def R6:List Value:=[iv 6,iv 0,iv 6,iv 0,iv 4,iv 2,iv 1,iv 100,iv 7,iv 0,iv 11,iv 0,iv 9,iv 0,iv 5,iv 2,iv 1,iv 2,iv 6,iv 0,iv 20,iv 0,iv 21,iv 0,iv 6,iv 0,iv 6,iv 0,iv 4,iv 4,iv 1,iv 1,iv 9,iv 0,iv 5,iv 4,iv 1,iv 3,iv 7,iv 0,iv 20,iv 0,iv 21,iv 0]
def R7:List Value:=[iv 7,iv 0,iv 4,iv 6,iv 6,iv 0,iv 1,iv 1,iv 9,iv 0,iv 16,iv 0,iv 19,iv 13,iv 6,iv 0,iv 4,iv 4,iv 7,iv 0,iv 4,iv 4,iv 14,iv 0,iv 18,iv 14,iv 1,iv 0,iv 19,iv 24,iv 6,iv 0,iv 6,iv 0,iv 4,iv 2,iv 13,iv 0,iv 5,iv 2,iv 6,iv 0,iv 8,iv 0,iv 5,iv 5,iv 18,iv 25,iv 21,iv 0,iv 1,iv 4,iv 6,iv 0,iv 4,iv 4,iv 20,iv 0,iv 21,iv 0]
def R8:List Value:=[iv 1,iv 0,iv 3,iv 0,iv 21,iv 0,iv 1,iv 0,iv 3,iv 1,iv 2,iv 1,iv 1,iv 4,iv 14,iv 0,iv 19,iv 21,iv 2,iv 1,iv 2,iv 1,iv 4,iv 5,iv 2,iv 1,iv 4,iv 7,iv 9,iv 0,iv 5,iv 5,iv 2,iv 1,iv 1,iv 1,iv 9,iv 0,iv 3,iv 1,iv 18,iv 5,iv 2,iv 0,iv 1,iv 0,iv 4,iv 0,iv 1,iv 100,iv 12,iv 0,iv 9,iv 0,iv 3,iv 0,iv 1,iv 5,iv 2,iv 0,iv 20,iv 0,iv 21,iv 0]
def FZ(h len:Nat)(a b c:Int):Value:=.tuple ⟨[.agg ⟨[.slice (some ⟨h,0,none⟩) len l9,iv a,iv b,iv c]⟩,iv 0]⟩
def TL:Value:=.tuple ⟨[.agg ⟨[.slice none 0 0,iv (-1),iv (-1),iv (-1)]⟩,iv 0]⟩
def vj(src:String)(picks:List PB)(v:Value):Bool:=PZ mS picks v (JT Tryz.prog 3 100000 (.fn 25 [.string src.toUTF8] (zD mS) 3))
theorem mixed:Tryz.prog.follows .mixedOrders=true:=by kernel_rfl
theorem rd{src:String}{h:Nat}{cod:List Value}{ty:TypeId}{v:Value}(hh:h≠0)(hq:vj src [(h,cod,ty)] v=true) :
  af1 25 #[.string src.toUTF8] (mS.map oD) F λ v' H'=>∃ν rest,v'=mF ν v/\H'=mS.map oD++[sM ν rest (h,cod,ty)] :=
 vi (G:=3) (tabs:=mS) (picks:=[(h,cod,ty)]) mixed rfl rfl rfl (by simp[mS,hh.symm]) hq
theorem MR:vj "" [] TL=true:=by kernel_rfl
end
theorem MS:vj R0 [(1095,R5,230)] (FZ 1095 15 (-1) 0 (-1))=true:=by kernel_rfl
theorem MT:vj R1 [(1804,R6,230)] (FZ 1804 22 0 (-1) 12)=true:=by kernel_rfl
theorem MU:vj R3 [(2348,R7,230)] (FZ 2348 30 (-1) (-1) 0)=true:=by kernel_rfl
theorem MW:vj R4 [(2279,R8,230)] (FZ 2279 32 0 3 (-1))=true:=by kernel_rfl
noncomputable section
def oE:Nat->ByteArray
 | 0=>"".toUTF8
 |1=>R0.toUTF8
 |2=>R1.toUTF8
 |3=>R3.toUTF8
 |_=>R4.toUTF8
def JY:Nat->List Value
 |0=>[]
 |1=>R5
 |2=>R6
 |3=>R7
 |_=>R8
def fO:Nat->Nat
 |0=>0
 |1=>15
 |2=>22
 |3=>30
 |_=>32
def MX:Nat->List Value
 |0=>[iv (-1),iv (-1),iv (-1)]
 |1=>[iv (-1),iv 0,iv (-1)]
 |2=>[iv 0,iv (-1),iv 12]
 |3=>[iv (-1),iv (-1),iv 0]
 |_=>[iv 0,iv 3,iv (-1)]
inductive PrgV(j:Nat):Value->HL->Prop
 |nil:j=0->PrgV j (.slice none 0 0) []
 |some (b cap:Nat) (rest:List Value):PrgV j (.slice (some ⟨b,0,none⟩) (fO j) cap) [(b,.lit (JY j++rest) 230 (0,0))]
theorem mt(ν:Nu)(h len:Nat)(a b c:Int):mF ν (FZ h len a b c)=.tuple ⟨[.agg ⟨[.slice (some ⟨wI ν h,0,none⟩) len (TK ν h l9),iv a,iv b,iv c]⟩,iv 0]⟩:=by
 simp only[FZ,mF,JU,JV,iv]
theorem JZ(hj:j<5):af1 25 #[.string (oE j)] (mS.map oD) F λ u H'=>∃s Hp,PrgV j s Hp/\u=.tuple ⟨[.agg ⟨s::MX j⟩,iv 0]⟩/\H'=mS.map oD++Hp:=by
 match j,hj with
 |0,_=>
  refine(vi (G:=3) (tabs:=mS) (picks:=[]) mixed rfl rfl rfl (by simp[mS]) MR).mono ?_;rintro u H' ⟨ν,rest,rfl,rfl⟩;exact⟨_,[],.nil rfl,rfl,rfl⟩
 |1,_=>
  refine(rd (by decide) MS).mono ?_;rintro u H' ⟨ν,rest,rfl,rfl⟩;exact⟨_,_,.some _ _ _,mt ..,rfl⟩
 |2,_=>
  refine(rd (by decide) MT).mono ?_;rintro u H' ⟨ν,rest,rfl,rfl⟩;exact⟨_,_,.some _ _ _,mt ..,rfl⟩
 |3,_=>
  refine(rd (by decide) MU).mono ?_;rintro u H' ⟨ν,rest,rfl,rfl⟩;exact⟨_,_,.some _ _ _,mt ..,rfl⟩
 |4,_=>
  refine(rd (by decide) MW).mono ?_;rintro u H' ⟨ν,rest,rfl,rfl⟩;exact⟨_,_,.some _ _ _,mt ..,rfl⟩
theorem MY(hj:j<5)(hF:(0,Blk.lit wK 232 (0,0))∈F):af1 25 #[.string (oE j)] [] F λ u H'=>∃s,PrgV j s H'/\u=.tuple ⟨[.agg ⟨s::MX j⟩,iv 0]⟩ :=
 JX hF λ F0=>(JZ hj).mono λ u H' ⟨s,Hp,h1,h2,h3⟩=>⟨Hp,⟨s,h1,h2⟩,h3⟩
end
def bW(j k:Nat):Int:=match (MX j)[k]? with|some (.int _ x)=>x|_=>0
def Oo:List Value->List Ins
 | .int _ a:: .int _ b::r=>⟨a,b⟩::Oo r
 |_=>[]
def kF(j:Nat):List Ins:=Oo (JY j)
theorem zG:∀ {j:Nat},j<5->(kF j).length=fO j
 |0,_=>by kernel_rfl
 |1,_=>by kernel_rfl
 |2,_=>by kernel_rfl
 |3,_=>by kernel_rfl
 |4,_=>by kernel_rfl
 |j+5,h=>absurd h (by omega)
theorem Cc:∀ {j:Nat},j<5->JY j=ak ld (kF j)
 |0,_=>by kernel_rfl
 |1,_=>by kernel_rfl
 |2,_=>by kernel_rfl
 |3,_=>by kernel_rfl
 |4,_=>by kernel_rfl
 |j+5,h=>absurd h (by omega)
theorem wL:∀ {j:Nat},j<5->fO j<=32
 |0,_=>by decide
 |1,_=>by decide
 |2,_=>by decide
 |3,_=>by decide
 |4,_=>by decide
 |j+5,h=>absurd h (by omega)
theorem MZ:∀ {j:Nat},j<5->MX j=[vI (bW j 0),vI (bW j 1),vI (bW j 2)]
 |0,_=>by kernel_rfl
 |1,_=>by kernel_rfl
 |2,_=>by kernel_rfl
 |3,_=>by kernel_rfl
 |4,_=>by kernel_rfl
 |j+5,h=>absurd h (by omega)
abbrev vk(F:HL):Prop:=(0,Blk.lit wK 232 (0,0))∈F
def TM(F:HL)(j:Nat)(A:Option Addr):Prop:=0<fO j->∃b rest,A=some ⟨b,0,none⟩/\(b,Blk.lit (JY j++rest) 230 (0,0))∈F
structure CodT(j:Nat)(A:Option Addr)(T:HL):Prop where
 src:∀F,(∀x∈T,x∈F)->SrcIn Tryz.prog ld F A (fO j) (kF j)
 wrd:∀F,(∀x∈T,x∈F)->TM F j A
theorem J0(hj:j<5)(hE:vk F):af1 25 #[.string (oE j)] (ap [] []) F (λ u H'=>∃x:Option Addr×Nat×HL,H'=ap [] [x.2.2]/\(u=.tuple #[.agg #[.slice x.1 (fO j) x.2.1,vI (bW j 0),vI (bW j 1),vI (bW j 2)],vI 0]/\CodT j x.1 x.2.2)):=by
 refine(MY hj hE).mono ?_;rintro u H' ⟨s,hp,rfl⟩;rw[MZ hj];cases hp with
 |nil h0=>
  subst h0;exact⟨(none,0,[]),(bm).symm,rfl,⟨λ F hF=>SrcIn.none,λ F hF h=>absurd h (by decide)⟩⟩
 |some b cap rest=>
  refine⟨(some ⟨b,0,none⟩,cap,[(b,.lit (JY j++rest) 230 (0,0))]),(bm).symm,rfl,⟨λ F hF=>?_,λ F hF h=>⟨b,rest,rfl,hF _ (eb.2 rfl)⟩⟩⟩;have h:=SrcIn.lit HD (xs:=kF j) (rest:=rest) (ty:=230) (fz:=(0,0)) (F:=F) (q:=b) (by rw[<- Cc hj];exact hF _ (eb.2 rfl));rw[zG hj] at h;exact h
inductive Book1(j bp:Nat):HL->Prop
 |mk (q:Nat) (A:Option Addr) (c:Nat) (T:HL) (h:CodT j A T):Book1 j bp (ap [(bp,.lit [vS q 0 1 1] 87 (0,0)),(q,.lit [vI 0,.slice A (fO j) c,vI (bW j 0),vI (bW j 1),vI (bW j 2)] 84 (0,0))] [T])
def R9:List Value:=[.string ⟨#[]⟩,.string ⟨#[111,110,32,116,105,99,107,32,123,32,110,32,61,32,110,32,43,32,49,59,32,105,102,32,110,32,62,61,32,51,32,123,32,101,102,102,101,99,116,32,49,44,32,110,59,32,110,32,61,32,48,59,32,125,32,125]⟩,.string ⟨#[111,110,32,97,99,116,32,123,32,118,120,91,115,101,108,102,93,32,61,32,118,120,91,115,101,108,102,93,32,43,32,49,48,48,32,42,32,111,116,104,101,114,59,32,101,102,102,101,99,116,32,50,44,32,115,101,108,102,59,32,125,32,111,110,32,104,105,116,32,123,32,97,91,115,101,108,102,93,32,61,32,97,91,115,101,108,102,93,32,43,32,49,59,32,101,102,102,101,99,116,32,51,44,32,111,116,104,101,114,59,32,125]⟩,.string ⟨#[111,110,32,104,105,116,32,123,32,105,102,32,104,105,116,91,111,116,104,101,114,93,32,61,61,32,115,101,108,102,32,43,32,49,32,38,38,32,97,91,115,101,108,102,93,32,60,32,97,91,111,116,104,101,114,93,32,123,32,118,120,91,115,101,108,102,93,32,61,32,45,118,120,91,115,101,108,102,93,59,32,98,91,115,101,108,102,93,32,61,32,116,105,99,107,59,32,125,32,101,108,115,101,32,123,32,115,116,111,112,59,32,125,32,101,102,102,101,99,116,32,52,44,32,97,91,115,101,108,102,93,59,32,125]⟩,.string ⟨#[111,110,32,116,105,99,107,32,123,32,105,32,61,32,48,59,32,119,104,105,108,101,32,105,32,60,32,52,32,123,32,98,91,105,93,32,61,32,98,91,105,93,32,43,32,115,116,105,108,108,91,105,93,59,32,105,32,61,32,105,32,43,32,49,59,32,125,32,115,32,61,32,115,32,43,32,120,91,48,93,32,47,32,49,48,48,59,32,101,102,102,101,99,116,32,53,44,32,115,59,32,125,32,111,110,32,97,99,116,32,123,32,115,32,61,32,48,59,32,125]⟩]
def P0:Nat->Nat->Value:=λ i k=>match k with|0=>.string (oE i)|_=>default
theorem zH:af1 26 #[] (ap [] []) F (λ u H'=>∃q:Nat,H'=ap [(q,.lit R9 9 (0,0))] []/\u=vS q 0 5 5):=by
 refine QG Tryz.func26<|ae 11 [] λ n1=>QI [] [0] [] (vS (n1+0) 0 5 5) (ap [((n1+0),.lit R9 9 (0,0))] []) ⟨_,rfl,rfl⟩
theorem Cd{n:Int}(F:HL)(hn:pv n):af0 6 #[vI n] F (.string (oE (aq n 5).toNat)):=by
 refine QG Tryz.func6<|OG 7<|Ss (zH) ?_;rintro _ q1 rfl;refine OG 1<|aah (gu n 5 (by decide)) ?_;have hA2:=dH (n:=n) hn 5 (by decide);refine aaj 0 (.rows 1 5 P0 9 (0,0))<|ah 5 [.ix ((aq n 5).toNat),.row 0 ((aq n 5).toNat) 0] [(0+((aq n 5).toNat)*1)=((aq n 5).toNat)*1+0/\((aq n 5).toNat)<5,aq n 5=(((aq n 5).toNat:Nat):Int)/\(aq n 5).toNat<5] λ _=>QJ _ _ ⟨rfl,rfl⟩
theorem J1(hj:j<5)(hE:vk F):af1 5 #[.string (oE j)] (ap [] []) F (λ u H'=>∃x:Nat×HL,H'=ap [] [x.2]/\(u=.tuple #[vP x.1 0,vI 0]/\Book1 j x.1 x.2)):=by
 refine QG Tryz.func5<|OG 9<|Ss (J0 hj (aC hE)) ?_;rintro _ ⟨A1,c2,T3⟩ ⟨rfl,hC4⟩;dsimp only at hC4;refine ae 29 (ow 0 8) λ n5=>QI [] [0,1] [0] (.tuple #[vP (n5+2) 0,vI 0]) (ap [((n5+2),.lit [vS (n5+1) 0 1 1] 87 (0,0)),((n5+1),.lit [vI 0,.slice A1 (fO j) c2,vI (bW j 0),vI (bW j 1),vI (bW j 2)] 84 (0,0))] [T3]) ⟨((n5+2),ap [((n5+2),.lit [vS (n5+1) 0 1 1] 87 (0,0)),((n5+1),.lit [vI 0,.slice A1 (fO j) c2,vI (bW j 0),vI (bW j 1),vI (bW j 2)] 84 (0,0))] [T3]),by simp[ap],rfl,.mk _ _ _ _ hC4⟩
open Go.Shelf
theorem J3(c0 c1 c2 c3 c4:Value)(F:HL):SpD Tryz.prog 67 #[c0,c1,c2,c3,c4] [] F (λ _ H'=>H'=[]):=by
 intro w hR;refine callsDIn_of_wpSIn (F:=Wr none) (n:=0) Tryz.func67 rfl trivial λ c₀ cs hu=>?_;have hrc:recoverD (c₀::cs)=none:=by simp[recoverD,hu]
 refine wpSIn_seq (wpSIn_region ?_);show wpOpsSIn _ _ _ _ _ [0,1] _ _ _;simp only[wpOpsSIn,acY,ac1,ace];simp[wpOpsSIn,go_sem,hrc,Tryz.ntmps67,Exit.thenS];refine wpSIn_cond (t:=false) (by simp[Act.eval,Array.replicate])<|wpSIn_of_wpIn rfl<|wpIn_skip ?_;simp[bodyPostS,results,Tryz.results67,hu];exact⟨.returning,by cases c₀;simp at hu;subst hu;rfl,hu▸rfl,hR,jt _ _⟩
end Go.Proofs.YtjokannbjmndfaaGreatDoor
