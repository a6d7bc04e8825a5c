import Derived.Test.YtogafelgppjklaaGreatDoorQ05
import Derived.Test.YtogafelgppjklaaGreatDoorQ07
set_option maxHeartbeats 4000000
set_option maxRecDepth 100000
set_option linter.all false
namespace Go.Proofs.YtogafelgppjklaaGreatDoor
open Go.RowKit
section
variable {F:HL} {H:AH} {P:Program} {j:Nat} {ν:Nu}
noncomputable section
def tJ(ν:Nu)(h:Nat):Nat:=match ν h with
 |some (b,_)=>b
 |none=>0
def Up(ν:Nu)(h c:Nat):Nat:=match Nat.blt c lw with
 |true=>c
 |false=>match ν h with
  |some (_,K)=>K-(c-lw)
  |none=>0
mutual
def ne(ν:Nu):Value->Value
 | .pointer (some a)=>.pointer (some ⟨tJ ν a.block,a.off,none⟩)
 | .slice (some a) n c=>.slice (some ⟨tJ ν a.block,a.off,none⟩) n (Up ν a.block c)
 | .map (some h)=>.map (some (tJ ν h))
 | .iface t v=>.iface t (ne ν v)
 | .agg c=>.agg (Kn ν c)
 | .tuple c=>.tuple (Kn ν c)
 |v=>v
def Kn(ν:Nu):Array Value->Array Value
 | ⟨l⟩=>⟨Ko ν l⟩
def Ko(ν:Nu):List Value->List Value
 | []=>[]
 |v::l=>ne ν v::Ko ν l
end
mutual
def tf:Value->Bool
 | .iface _ v=>tf v
 | .func f a c=>pl (.func f a c)
 | .agg c=>Tf c
 | .tuple c=>Tf c
 | .chan _=>false
 |_=>true
def Tf:Array Value->Bool
 | ⟨l⟩=>Qh l
def Qh:List Value->Bool
 | []=>true
 |v::l=>match tf v with
  |true=>Qh l
  |false=>false
end
theorem wS{ν:Nu}:∀ {l l':List Value},l.length=l'.length->(∀ (i:Nat) (v v':Value),l[i]?=some v->l'[i]?=some v'->tf v=true->v'=ne ν v)->Qh l=true->l'=Ko ν l
 | [],[],_,_,_=>rfl
 | [],_::_,e,_,_=>by simp at e
 |_::_,[],e,_,_=>by simp at e
 |v::l,v'::l',e,h,ho=>by
  rw[Qh] at ho;cases hv:tf v with
  |false=>rw[hv] at ho;cases ho
  |true=>
   rw[hv] at ho;have a1:=h 0 v v' rfl rfl hv;have a2:=wS (l:=l) (l':=l') (by simpa using e) (λ i a b h1 h2=>h (i+1) a b (by simpa using h1) (by simpa using h2)) ho;rw[Ko,<- a1,<- a2]
theorem DH{v v':Value}(h:VRi ν v v'):tf v=true->v'=ne ν v:=by
 induction h with
 |atom v h=>
  intro _;cases v with
  |pointer a=>cases a with
   |none=>rfl
   |some a=>simp[cw] at h
  |slice a n c=>cases a with
   |none=>rfl
   |some a=>simp[cw] at h
  |map r=>cases r with
   |none=>rfl
   |some r=>simp[cw] at h
  |iface t v=>simp[cw] at h
  |agg c=>simp[cw] at h
  |tuple c=>simp[cw] at h
  |_=>rfl
 |ptr o h=>intro _;simp[ne,tJ,h]
 | @slice hd b K c c' o n h hc=>
  intro _;simp only[ne,tJ,Up,h];congr 1;cases hb:Nat.blt c lw with
  |true=>exact hc.1 (Eq.mp Nat.blt_eq hb)
  |false=>
   have h2:=hc.2 (lA hb);simp only;omega
 |map h=>intro _;simp[ne,tJ,h]
 |func hf e1 h1 e2 h2 _ _=>
  intro ho;have:=VRi.plain_eq (VRi.func hf e1 h1 e2 h2) (by simpa only[tf] using ho);rw[this];rfl
 |iface t _ ih=>intro ho;rw[ne,<- ih (by simpa only[tf] using ho)]
 | @agg c c' e _ ih=>
  intro ho;obtain⟨l⟩:=c;obtain⟨l'⟩:=c';simp only[ab9] at ih;rw[ne,Kn,wS (l:=l) (l':=l') e ih (by simpa only[tf,Tf] using ho)]
 | @tuple c c' e _ ih=>
  intro ho;obtain⟨l⟩:=c;obtain⟨l'⟩:=c';simp only[ab9] at ih;rw[ne,Kn,wS (l:=l) (l':=l') e ih (by simpa only[tf,Tf] using ho)]
theorem Nd{l l':List Value}(h:LR ν l l'):Qh l=true->l'=l.map (ne ν):=by
 induction h with
 |nil=>intro _;rfl
 | @cons v v' l l' h _ ih=>
  intro ho;rw[Qh] at ho;cases hv:tf v with
  |false=>rw[hv] at ho;cases ho
  |true=>
   rw[hv] at ho;rw[ab7,DH h hv,ih ho]
abbrev PB:=Nat×List Value×TypeId
def Nf(H:AH)(p:PB):Bool:=match bP H p.1 with
 |some (.cells n t ty _ _)=>match Nat.beq n (gE p.2.1),Nat.beq ty p.2.2 with
  |true,true=>match qR (gZ t 0 n) p.2.1 with
   |true=>Qh p.2.1
   |false=>false
  |_,_=>false
 |_=>false
def DI(H:AH):List PB->Bool
 | []=>true
 |p::l=>match Nf H p with
  |true=>DI H l
  |false=>false
def pY(ν:Nu)(w:World)(p:PB):List Value:=match w.heap[tJ ν p.1]? with
 |some (.cells c _ _)=>c.toList.drop p.2.1.length
 |_=>[]
def tg(ν:Nu)(rest:PB->List Value)(p:PB):Nat×Blk:=(tJ ν p.1,.lit (p.2.1.map (ne ν)++rest p) p.2.2 (0,0))
theorem DJ(l l':List Value)(h:qR l l'=true):l=l':=by
 induction l generalizing l' with
 |nil=>cases l' with
  |nil=>rfl
  |cons v l'=>simp[qR] at h
 |cons v l ih=>cases l' with
  |nil=>simp[qR] at h
  |cons v' l'=>
   rw[qR] at h;cases hv:tI v v' with
   |false=>rw[hv] at h;cases h
   |true=>rw[hv] at h;rw[Cd _ _ hv,ih _ h]
theorem Kq{w:World}(hH:HR ν H F w){p:PB}(hc:Nf H p=true) :
  (∃K,ν p.1=some (tJ ν p.1,K))/\(∃b,bP H p.1=some b)/\w.heap[tJ ν p.1]?=some (tg ν (pY ν w) p).2.den:=by
 unfold Nf at hc;split at hc
 case h_2=>cases hc
 rename_i n t ty ww ro hb;split at hc
 case h_2=>cases hc
 rename_i e1 e2;have e1:=aaX e1;have e2:=aaX e2;split at hc
 case h_2=>cases hc
 rename_i e3;have e3:=DJ _ _ e3;obtain⟨r,K,o,h1,h2,h3⟩:=hH.blk _ _ hb;have hn:tJ ν p.1=r:=by simp[tJ,h1]
 have hcc:=hH.cells hb h1;obtain⟨c,ty',fz,g1,g2⟩:=hcc;refine⟨⟨K,by rw[hn];exact h1⟩,⟨_,hb⟩,?_⟩;rw[hn,g1];have hr:=kw g2.le g2.get n 0 (by omega);rw[e3] at hr;have hl:=Nd hr hc;rw[d9] at e1;simp only[tg,Blk.den,pY,hn,g1,g2.ty,g2.fz,<- e2];congr 2;apply Array.ext';simp only;rw[<- hl,adl,<- e1,abg]
def wT:List PB->AH
 | []=>.lf
 |p::l=>cM (wT l) p.1 (some (.cells (gE p.2.1) (dM undef p.2.1 0 .lf) p.2.2 1 true))
def zH(tabs:List PB)(G:Nat):Nu:=λ h=>if h<G then some (h,match tabs.find? (λ p=>p.1 == h) with|some p=>p.2.1.length|none=>0) else none
def pi(p:PB):Nat×Blk:=(p.1,.lit p.2.1 p.2.2 (0,0))
def zI(G:Nat):List PB->Bool
 | []=>true
 |p::l=>match Nat.blt p.1 G,yT p.2.1,l.any (λ q=>q.1 == p.1) with
  |true,true,false=>zI G l
  |_,_,_=>false
end
noncomputable section
theorem DL:∀ (tabs:List PB) (h:Nat),bP (wT tabs) h=match tabs.find? (λ p=>p.1 == h) with
  |some p=>some (.cells (gE p.2.1) (dM undef p.2.1 0 .lf) p.2.2 1 true)
  |none=>none
 | [],h=>B2
 |p::l,h=>by
  rw[wT,dF,DL l h]
  by_cases e:p.1=h
  ·rw[if_pos e,List.find?_cons_of_pos (by simpa using e)]
  ·rw[if_neg e,List.find?_cons_of_neg (by simpa using e)]
theorem mW{G:Nat}:∀ {tabs:List PB},zI G tabs=true->∀p∈tabs,p.1<G/\yT p.2.1=true
 | [],_,p,hp=>by simp at hp
 |q::l,h,p,hp=>by
  rw[zI] at h;split at h
  ·rename_i h1 h2 h3;rcases abs.1 hp with rfl|hp
   ·exact⟨Eq.mp Nat.blt_eq h1,h2⟩
   ·exact mW h p hp
  ·cases h
theorem DM:∀ {l:List Value},yT l=true->∀ {i:Nat} {v:Value},l[i]?=some v->pl v=true
 | [],_,i,v,h=>by simp at h
 |x::l,hp,i,v,h=>by
  rw[yT] at hp;split at hp
  ·rename_i hx;cases i with
   |zero=>simp at h;rw[<- h];exact hx
   |succ i=>exact DM hp (by simpa using h)
  ·cases hp
theorem pZ{tabs:List PB}{h:Nat}{p:PB}(e:tabs.find? (λ p=>p.1 == h)=some p):p∈tabs/\p.1=h :=
 ⟨List.mem_of_find?_eq_some e,by simpa using List.find?_some e⟩
section
variable {tabs picks:List PB} {G:Nat} {F:HL} {w:World}
theorem Qi(ht:zI G tabs=true)(hR:Rel (tabs.map pi++F) w):HR (zH tabs G) (wT tabs) F w:=by
 have key:∀h b,bP (wT tabs) h=some b->∃p,tabs.find? (λ p=>p.1 == h)=some p/\b=.cells (gE p.2.1) (dM undef p.2.1 0 .lf) p.2.2 1 true:=λ h b hb=>by
  rw[DL] at hb;split at hb
  ·rename_i p hp;cases hb;exact⟨p,hp,rfl⟩
  ·cases hb
 refine⟨λ h b hb=>?_,λ h₁ h₂ b₁ b₂ r K₁ K₂ _ _ e1 e2=>?_,λ x hx=>hR.holds x (aaB _ hx),λ h b r K hb e1 x hx=>?_⟩
 ·obtain⟨p,hp,rfl⟩:=key h b hb;obtain⟨hm,rfl⟩:=pZ hp;obtain⟨g_,hpl⟩:=mW ht p hm;refine⟨p.1,p.2.1.length,.cells ⟨p.2.1⟩ p.2.2 (0,0),by simp only[zH,if_pos g_,hp],?_,?_⟩
  ·exact hR.holds (pi p) (aaC _ (abG.2 ⟨p,hm,rfl⟩))
  ·refine⟨rfl,by rw[d9];exact aaI _,rfl,λ i hi=>?_,λ _=>by simp⟩;rw[d9] at hi;refine⟨p.2.1[i],by simp[hi],?_⟩;rw[mg hi];exact VRi.plain_refl _ (DM hpl (aaP hi))
 ·unfold zH at e1 e2;split at e1
  ·split at e2
   ·simp only[de,df] at e1 e2;rw[e1.1,e2.1]
   ·cases e2
  ·cases e1
 ·obtain⟨p,hp,rfl⟩:=key h b hb;obtain⟨hm,rfl⟩:=pZ hp;have hr:r=p.1:=by
   unfold zH at e1;split at e1
   ·simp only[de,df] at e1;exact e1.1.symm
   ·cases e1
  intro e;have hn:=hR.nodup;rw[abJ,adj] at hn;exact hn.2.2 p.1 (by rw[List.map_map];exact abG.2 ⟨p,hm,rfl⟩) x.1 (abG.2 ⟨x,hx,rfl⟩) (by rw[e,hr])
def Ng(H:AH)(p:PB):Bool:=match bP H p.1 with
 |some (.cells n t ty ww _)=>match Nat.beq n (gE p.2.1),Nat.beq ty p.2.2,Nat.beq ww 1 with
  |true,true,true=>qR (gZ t 0 n) p.2.1
  |_,_,_=>false
 |_=>false
def DN(H:AH):List PB->Bool
 | []=>true
 |p::l=>match Ng H p with
  |true=>DN H l
  |false=>false
theorem vu{H:AH}:∀ {l:List PB},DN H l=true->∀p∈l,Ng H p=true
 | [],_,p,hp=>by simp at hp
 |q::l,h,p,hp=>by
  rw[DN] at h;split at h
  ·rename_i h1;rcases abs.1 hp with rfl|hp
   ·exact h1
   ·exact vu h p hp
  ·cases h
theorem vv{H:AH}:∀ {l:List PB},DI H l=true->∀p∈l,Nf H p=true
 | [],_,p,hp=>by simp at hp
 |q::l,h,p,hp=>by
  rw[DI] at h;split at h
  ·rename_i h1;rcases abs.1 hp with rfl|hp
   ·exact h1
   ·exact vv h p hp
  ·cases h
theorem LR.plain_eq{l l':List Value}(h:LR ν l l'):yT l=true->l'=l:=by
 induction h with
 |nil=>intro _;rfl
 | @cons v v' l l' h _ ih=>
  intro hp;rw[yT] at hp;split at hp
  ·rename_i hv;rw[VRi.plain_eq h hv,ih hp]
  ·cases hp
theorem Nh(hH:HR ν H F w){p:PB}(hc:Ng H p=true)(hp:yT p.2.1=true)(hν:ν p.1=some (p.1,p.2.1.length)):w.heap[p.1]?=some (pi p).2.den/\∃b,bP H p.1=some b:=by
 unfold Ng at hc;split at hc
 case h_2=>cases hc
 rename_i n t ty ww ro hb;split at hc
 case h_2=>cases hc
 rename_i e1 e2 e3;have e1:=aaX e1;have e2:=aaX e2;have e3:=aaX e3;have e4:=DJ _ _ hc;obtain⟨c,ty',fz,g1,g2⟩:=hH.cells hb hν;refine⟨?_,_,hb⟩;have hr:=kw g2.le g2.get n 0 (by omega);rw[e4] at hr;have hl:=hr.plain_eq hp;have RW:=g2.gr (by omega);rw[e3,Nat.mul_one] at RW;rw[d9] at e1;rw[g1,g2.ty,g2.fz,e2];simp only[pi,Blk.den];congr 2;apply Array.ext';rw[adl] at hl;rw[<- hl,abF];have:c.toList.length=c.size:=rfl;omega
theorem th:∀ {l:List PB},(l.map (·.1)).Nodup->∀ {p q:PB},p∈l->q∈l->q.1=p.1->q=p
 | [],_,p,q,hp,_,_=>by simp at hp
 |x::l,hd,p,q,hp,hq,e=>by
  simp only[ab7,adG] at hd;rcases abs.1 hp with h1|h1 <;> rcases abs.1 hq with h2|h2
  ·rw[h1,h2]
  ·exact absurd (abG.2 ⟨q,h2,by rw[e,h1]⟩) hd.1
  ·exact absurd (abG.2 ⟨p,h1,by rw[<- e,h2]⟩) hd.1
  ·exact th hd.2 h1 h2 e
def Ni(tabs picks:List PB)(v0:Value):Option Rs->Bool
 |some (.fn v H _)=>match tI v v0,tf v0,DN H tabs with
  |true,true,true=>DI H picks
  |_,_,_=>false
 |_=>false
theorem LR.plain_refl{ν:Nu}:∀ {l:List Value},yT l=true->LR ν l l
 | [],_=>.nil
 |v::l,h=>by
  rw[yT] at h;split at h
  ·rename_i hv;exact .cons (VRi.plain_refl v hv) (LR.plain_refl h)
  ·cases h
theorem p6(hm:P.follows .mixedOrders=true){k n0:Nat}{f:FuncId}{args:List Value}{v0:Value}(hG:Nat.ble G n0=true)(ht:zI G tabs=true)(ha:yT args=true)
  (W_:(tabs.map (·.1)++picks.map (·.1)).Nodup) (f_:Ni tabs picks v0 (Ga P G k (.fn f args (wT tabs) n0))=true) :
  Sp P f ⟨args⟩ (tabs.map pi) F λ v' H'=>∃ν rest,v'=ne ν v0/\H'=tabs.map pi++picks.map (tg ν rest):=by
 intro w hR;have hG:=bI hG;cases WU:Ga P G k (.fn f args (wT tabs) n0) with
 |none=>rw[WU] at f_;cases f_
 |some res=>cases res with
  |cd e s=>rw[WU] at f_;cases f_
  |fn v H n'=>
   rw[WU] at f_;simp only[Ni] at f_;split at f_
   case h_2=>cases f_
   rename_i q1 q2 q3;rw[DG] at WU;obtain⟨hn,V9⟩:=Dt hm k _ _ WU;have g_:∀p∈tabs,p.1<G:=λ p hp=>(mW ht p hp).1;refine(V9 (zH tabs G) F w args (λ k hk=>⟨_,if_pos hk⟩) (λ h h1 h2=>by simp only[zH];rw[if_neg (by omega)]) (Qi ht hR) (LR.plain_refl ha)).mono ?_;rintro e w' ⟨ν,v',rfl,hv,ajm,hH,ajH⟩;rw[Cd _ _ q1] at hv;have hνt:∀p∈tabs,ν p.1=zH tabs G p.1:=λ p hp=>ajm.out _ (.inl (by have:=g_ p hp;omega));have ZK:∀p∈tabs,ν p.1=some (p.1,p.2.1.length):=λ p hp=>by
    rw[hνt p hp];simp only[zH,if_pos (g_ p hp)];congr 2;have hd:(tabs.map (·.1)).Nodup:=(adj.1 W_).1;cases hf:tabs.find? (λ q=>q.1 == p.1) with
    |none=>exact absurd (List.find?_eq_none.1 hf p hp) (by simp)
    |some q=>
     obtain⟨hq,Vh⟩:=pZ hf;have:q=p:=th hd hp hq Vh;simp[this]
   have ae3:∀p∈tabs,w'.heap[p.1]?=some (pi p).2.den/\∃b,bP H p.1=some b:=λ p hp=>Nh hH (vu q3 p hp) (mW ht p hp).2 (ZK p hp);have hpk:∀p∈picks,(∃K,ν p.1=some (tJ ν p.1,K))/\(∃b,bP H p.1=some b)/\w'.heap[tJ ν p.1]?=some (tg ν (pY ν w') p).2.den:=λ p hp=>Kq hH (vv f_ p hp);refine⟨v',tabs.map pi++picks.map (tg ν (pY ν w')),rfl,⟨ν,pY ν w',DH hv q2,rfl⟩,⟨?_,?_⟩,ajH⟩
   ·intro x hx;rcases abM.1 hx with hx|hx
    ·rcases abM.1 hx with hx|hx
     ·obtain⟨p,hp,rfl⟩:=abG.1 hx;exact(ae3 p hp).1
     ·obtain⟨p,hp,rfl⟩:=abG.1 hx;exact(hpk p hp).2.2
    ·exact hH.frm x hx
   ·-- the agb blocks
    have Q_:∀h∈tabs.map (·.1)++picks.map (·.1),∃K b,ν h=some (tJ ν h,K)/\bP H h=some b:=λ h hh=>by
     rcases abM.1 hh with hh|hh
     ·obtain⟨p,hp,rfl⟩:=abG.1 hh;obtain⟨b,hb⟩:=(ae3 p hp).2;exact⟨p.2.1.length,b,by simp[tJ,ZK p hp],hb⟩
     ·obtain⟨p,hp,rfl⟩:=abG.1 hh;obtain⟨⟨K,h1⟩,⟨b,hb⟩,-⟩:=hpk p hp;exact⟨K,b,h1,hb⟩
    have e1:(tabs.map pi++picks.map (tg ν (pY ν w'))).map (·.1)=(tabs.map (·.1)++picks.map (·.1)).map (tJ ν):=by
     simp only[abJ,List.map_map];congr 1;apply adV;intro p hp;simp[pi,tJ,ZK p hp]
    rw[abJ,adj,e1];refine⟨?_,?_,λ a ha b hb=>?_⟩
    ·rw[List.Nodup,List.pairwise_map];refine(List.pairwise_iff_forall_sublist.2 λ {a b} hs=>?_);have ha':=Q_ a (hs.subset (by simp));have Ww:=Q_ b (hs.subset (by simp));obtain⟨K1,b1,x1,x2⟩:=ha';obtain⟨K2,b2,y1,y2⟩:=Ww;intro e;have hab:a=b:=hH.inj _ _ _ _ _ _ _ x2 y2 x1 (by rw[e];exact y1);have:=W_.sublist hs;simp[hab] at this
    ·have:=hR.nodup;rw[abJ,adj] at this;exact this.2.1
    ·obtain⟨h,hh,rfl⟩:=abG.1 ha;obtain⟨x,hx,rfl⟩:=abG.1 hb;obtain⟨K,b,g1,g2⟩:=Q_ h hh;exact(hH.apt _ _ _ _ g2 g1 x hx).symm
end
end
theorem Kr{f:FuncId}{args:Array Value}{x:Nat×Blk}{Q:Value->HL->Prop}(hx:x∈F)(h:∀F0,Sp P f args [x] F0 λ u H'=>∃Hp,Q u Hp/\H'=[x]++Hp):Sp P f args [] F Q:=by
 obtain⟨l1,l2,rfl⟩:=List.append_of_mem hx;have hp:∀H:HL,([x]++H++(l1++l2)).Perm (H++(l1++x::l2)):=λ H=>by
  refine List.Perm.trans ?_ (abB H sv.symm);show (x::(H++(l1++l2))).Perm (H++x::(l1++l2));exact sv.symm
 intro w hR;have hR1:Rel ([x]++(l1++l2)) w:=hR.perm (by have:=hp [];simpa using this);refine(h (l1++l2) w hR1).mono ?_;rintro e w' ⟨v,H',he,⟨Hp,hq,rfl⟩,By,hb⟩;exact⟨v,Hp,he,hq,By.perm (hp Hp).symm,hb⟩
noncomputable section
def iv(x:Int):Value:=.int .i64 x
def wU:List Value:=[iv 0,iv 0,iv 0,iv 1,iv 0,iv 1,iv 1,iv 0,iv 1,iv 1,iv 2,iv 0,iv 0,iv 1,iv 0,iv 1,iv 0,iv 1,iv 2,iv 1,iv 2,iv 1,iv 2,iv 1,iv 2,iv 1,iv 1,iv 1,iv 2,iv 1,iv 2,iv 1,iv 2,iv 1,iv 1,iv 1,iv 0,iv 0,iv 1,iv 0,iv 2,iv 0,iv 0,iv 0]
def nF:List PB:=[(0,wU,254)]
def Sg:String:="on tick { n = n + 1; if n >= 3 { effect 1, n; n = 0; } }"
def Sh:String:="on act { vx[self] = vx[self] + 100 * other; effect 2, self; } on hit { a[self] = a[self] + 1; effect 3, other; }"
def Si:String:="on hit { if hit[other] == self + 1 && a[self] < a[other] { vx[self] = -vx[self]; b[self] = tick; } else { stop; } effect 4, a[self]; }"
def Sj:String:="on tick { i = 0; while i < 4 { b[i] = b[i] + still[i]; i = i + 1; } s = s + x[0] / 100; effect 5, s; } on act { s = 0; }"
def wV:List Value:=[iv 2,iv 0,iv 1,iv 1,iv 9,iv 0,iv 3,iv 0,iv 1,iv 3,iv 2,iv 0,iv 15,iv 0,iv 19,iv 14,iv 1,iv 1,iv 2,iv 0,iv 20,iv 0,iv 1,iv 0,iv 3,iv 0,iv 18,iv 14,iv 21,iv 0]
def Sk:List Value:=[iv 6,iv 0,iv 6,iv 0,iv 4,iv 2,iv 1,iv 100,iv 7,iv 0,iv 11,iv 0,iv 9,iv 0,iv 5,iv 2,iv 1,iv 2,iv 6,iv 0,iv 20,iv 0,iv 21,iv 0,iv 6,iv 0,iv 6,iv 0,iv 4,iv 4,iv 1,iv 1,iv 9,iv 0,iv 5,iv 4,iv 1,iv 3,iv 7,iv 0,iv 20,iv 0,iv 21,iv 0]
def Sl:List Value:=[iv 7,iv 0,iv 4,iv 6,iv 6,iv 0,iv 1,iv 1,iv 9,iv 0,iv 16,iv 0,iv 19,iv 13,iv 6,iv 0,iv 4,iv 4,iv 7,iv 0,iv 4,iv 4,iv 14,iv 0,iv 18,iv 14,iv 1,iv 0,iv 19,iv 24,iv 6,iv 0,iv 6,iv 0,iv 4,iv 2,iv 13,iv 0,iv 5,iv 2,iv 6,iv 0,iv 8,iv 0,iv 5,iv 5,iv 18,iv 25,iv 21,iv 0,iv 1,iv 4,iv 6,iv 0,iv 4,iv 4,iv 20,iv 0,iv 21,iv 0]
def Sm:List Value:=[iv 1,iv 0,iv 3,iv 0,iv 21,iv 0,iv 1,iv 0,iv 3,iv 1,iv 2,iv 1,iv 1,iv 4,iv 14,iv 0,iv 19,iv 21,iv 2,iv 1,iv 2,iv 1,iv 4,iv 5,iv 2,iv 1,iv 4,iv 7,iv 9,iv 0,iv 5,iv 5,iv 2,iv 1,iv 1,iv 1,iv 9,iv 0,iv 3,iv 1,iv 18,iv 5,iv 2,iv 0,iv 1,iv 0,iv 4,iv 0,iv 1,iv 100,iv 12,iv 0,iv 9,iv 0,iv 3,iv 0,iv 1,iv 5,iv 2,iv 0,iv 20,iv 0,iv 21,iv 0]
def Gb(h len:Nat)(a b c:Int):Value:=.tuple ⟨[.agg ⟨[.slice (some ⟨h,0,none⟩) len lw,iv a,iv b,iv c]⟩,iv 0]⟩
def Uq:Value:=.tuple ⟨[.agg ⟨[.slice none 0 0,iv (-1),iv (-1),iv (-1)]⟩,iv 0]⟩
def vw(src:String)(picks:List PB)(v:Value):Bool:=Ni nF picks v (Ga Tryz.prog 3 100000 (.fn 44 [.string src.toUTF8] (wT nF) 3))
theorem mixed:Tryz.prog.follows .mixedOrders=true:=by kernel_rfl
theorem rC{src:String}{h:Nat}{cod:List Value}{ty:TypeId}{v:Value}(hh:h≠0)(hq:vw src [(h,cod,ty)] v=true) :
  aeo 44 #[.string src.toUTF8] (nF.map pi) F λ v' H'=>∃ν rest,v'=ne ν v/\H'=nF.map pi++[tg ν rest (h,cod,ty)] :=
 p6 (G:=3) (tabs:=nF) (picks:=[(h,cod,ty)]) mixed rfl rfl rfl (by simp[nF,hh.symm]) hq
theorem Nj:vw "" [] Uq=true:=by kernel_rfl
end
theorem Nl:vw Sg [(1095,wV,212)] (Gb 1095 15 (-1) 0 (-1))=true:=by kernel_rfl
theorem Nm:vw Sh [(1804,Sk,212)] (Gb 1804 22 0 (-1) 12)=true:=by kernel_rfl
theorem Nn:vw Si [(2348,Sl,212)] (Gb 2348 30 (-1) (-1) 0)=true:=by kernel_rfl
theorem Np:vw Sj [(2279,Sm,212)] (Gb 2279 32 0 3 (-1))=true:=by kernel_rfl
noncomputable section
def qC:Nat->ByteArray
 | 0=>"".toUTF8
 |1=>Sg.toUTF8
 |2=>Sh.toUTF8
 |3=>Si.toUTF8
 |_=>Sj.toUTF8
def Ks:Nat->List Value
 |0=>[]
 |1=>wV
 |2=>Sk
 |3=>Sl
 |_=>Sm
def gt:Nat->Nat
 |0=>0
 |1=>15
 |2=>22
 |3=>30
 |_=>32
def Nq:Nat->List Value
 |0=>[iv (-1),iv (-1),iv (-1)]
 |1=>[iv (-1),iv 0,iv (-1)]
 |2=>[iv 0,iv (-1),iv 12]
 |3=>[iv (-1),iv (-1),iv 0]
 |_=>[iv 0,iv 3,iv (-1)]
inductive PrgV(j:Nat):Value->HL->Prop
 |nil:j=0->PrgV j (.slice none 0 0) []
 |some (b cap:Nat) (rest:List Value):PrgV j (.slice (some ⟨b,0,none⟩) (gt j) cap) [(b,.lit (Ks j++rest) 212 (0,0))]
theorem mX(ν:Nu)(h len:Nat)(a b c:Int):ne ν (Gb h len a b c)=.tuple ⟨[.agg ⟨[.slice (some ⟨tJ ν h,0,none⟩) len (Up ν h lw),iv a,iv b,iv c]⟩,iv 0]⟩:=by
 simp only[Gb,ne,Kn,Ko,iv]
theorem Ku(hj:j<5):aeo 44 #[.string (qC j)] (nF.map pi) F λ u H'=>∃s Hp,PrgV j s Hp/\u=.tuple ⟨[.agg ⟨s::Nq j⟩,iv 0]⟩/\H'=nF.map pi++Hp:=by
 match j,hj with
 |0,_=>
  refine(p6 (G:=3) (tabs:=nF) (picks:=[]) mixed rfl rfl rfl (by simp[nF]) Nj).mono ?_;rintro u H' ⟨ν,rest,rfl,rfl⟩;exact⟨_,[],.nil rfl,rfl,rfl⟩
 |1,_=>
  refine(rC (by decide) Nl).mono ?_;rintro u H' ⟨ν,rest,rfl,rfl⟩;exact⟨_,_,.some _ _ _,mX ..,rfl⟩
 |2,_=>
  refine(rC (by decide) Nm).mono ?_;rintro u H' ⟨ν,rest,rfl,rfl⟩;exact⟨_,_,.some _ _ _,mX ..,rfl⟩
 |3,_=>
  refine(rC (by decide) Nn).mono ?_;rintro u H' ⟨ν,rest,rfl,rfl⟩;exact⟨_,_,.some _ _ _,mX ..,rfl⟩
 |4,_=>
  refine(rC (by decide) Np).mono ?_;rintro u H' ⟨ν,rest,rfl,rfl⟩;exact⟨_,_,.some _ _ _,mX ..,rfl⟩
theorem Nr(hj:j<5)(hF:(0,Blk.lit wU 254 (0,0))∈F):aeo 44 #[.string (qC j)] [] F λ u H'=>∃s,PrgV j s H'/\u=.tuple ⟨[.agg ⟨s::Nq j⟩,iv 0]⟩ :=
 Kr hF λ F0=>(Ku hj).mono λ u H' ⟨s,Hp,h1,h2,h3⟩=>⟨Hp,⟨s,h1,h2⟩,h3⟩
end
def cE(j k:Nat):Int:=match (Nq j)[k]? with|some (.int _ x)=>x|_=>0
def OE:List Value->List Ins
 | .int _ a:: .int _ b::r=>⟨a,b⟩::OE r
 |_=>[]
def kZ(j:Nat):List Ins:=OE (Ks j)
theorem zJ:∀ {j:Nat},j<5->(kZ j).length=gt j
 |0,_=>by kernel_rfl
 |1,_=>by kernel_rfl
 |2,_=>by kernel_rfl
 |3,_=>by kernel_rfl
 |4,_=>by kernel_rfl
 |j+5,h=>absurd h (by omega)
theorem Ci:∀ {j:Nat},j<5->Ks j=aq lF (kZ j)
 |0,_=>by kernel_rfl
 |1,_=>by kernel_rfl
 |2,_=>by kernel_rfl
 |3,_=>by kernel_rfl
 |4,_=>by kernel_rfl
 |j+5,h=>absurd h (by omega)
theorem wW:∀ {j:Nat},j<5->gt j<=32
 |0,_=>by decide
 |1,_=>by decide
 |2,_=>by decide
 |3,_=>by decide
 |4,_=>by decide
 |j+5,h=>absurd h (by omega)
theorem Ns:∀ {j:Nat},j<5->Nq j=[vI (cE j 0),vI (cE j 1),vI (cE j 2)]
 |0,_=>by kernel_rfl
 |1,_=>by kernel_rfl
 |2,_=>by kernel_rfl
 |3,_=>by kernel_rfl
 |4,_=>by kernel_rfl
 |j+5,h=>absurd h (by omega)
abbrev qD(F:HL):Prop:=(0,Blk.lit wU 254 (0,0))∈F
def Ur(F:HL)(j:Nat)(A:Option Addr):Prop:=0<gt j->∃b rest,A=some ⟨b,0,none⟩/\(b,Blk.lit (Ks j++rest) 212 (0,0))∈F
structure CodT(j:Nat)(A:Option Addr)(T:HL):Prop where
 src:∀F,(∀x∈T,x∈F)->SrcIn Tryz.prog lF F A (gt j) (kZ j)
 wrd:∀F,(∀x∈T,x∈F)->Ur F j A
theorem Kv(hj:j<5)(hE:qD F):aeo 44 #[.string (qC j)] (ap [] []) F (λ u H'=>∃x:Option Addr×Nat×HL,H'=ap [] [x.2.2]/\(u=.tuple #[.agg #[.slice x.1 (gt j) x.2.1,vI (cE j 0),vI (cE j 1),vI (cE j 2)],vI 0]/\CodT j x.1 x.2.2)):=by
 refine(Nr hj hE).mono ?_;rintro u H' ⟨s,hp,rfl⟩;rw[Ns hj];cases hp with
 |nil h0=>
  subst h0;exact⟨(none,0,[]),(br).symm,rfl,⟨λ F hF=>SrcIn.none,λ F hF h=>absurd h (by decide)⟩⟩
 |some b cap rest=>
  refine⟨(some ⟨b,0,none⟩,cap,[(b,.lit (Ks j++rest) 212 (0,0))]),(br).symm,rfl,⟨λ F hF=>?_,λ F hF h=>⟨b,rest,rfl,hF _ (jt.2 rfl)⟩⟩⟩;have h:=SrcIn.lit HO (xs:=kZ j) (rest:=rest) (ty:=212) (fz:=(0,0)) (F:=F) (q:=b) (by rw[<- Ci hj];exact hF _ (jt.2 rfl));rw[zJ hj] at h;exact h
inductive Book1(j bp:Nat):HL->Prop
 |mk (q:Nat) (A:Option Addr) (c:Nat) (T:HL) (h:CodT j A T):Book1 j bp (ap [(bp,.lit [vS q 0 1 1] 118 (0,0)),(q,.lit [vI 0,.slice A (gt j) c,vI (cE j 0),vI (cE j 1),vI (cE j 2)] 115 (0,0))] [T])
def Sn:List Value:=[.string ⟨#[]⟩,.string ⟨#[111,110,32,116,105,99,107,32,123,32,110,32,61,32,110,32,43,32,49,59,32,105,102,32,110,32,62,61,32,51,32,123,32,101,102,102,101,99,116,32,49,44,32,110,59,32,110,32,61,32,48,59,32,125,32,125]⟩,.string ⟨#[111,110,32,97,99,116,32,123,32,118,120,91,115,101,108,102,93,32,61,32,118,120,91,115,101,108,102,93,32,43,32,49,48,48,32,42,32,111,116,104,101,114,59,32,101,102,102,101,99,116,32,50,44,32,115,101,108,102,59,32,125,32,111,110,32,104,105,116,32,123,32,97,91,115,101,108,102,93,32,61,32,97,91,115,101,108,102,93,32,43,32,49,59,32,101,102,102,101,99,116,32,51,44,32,111,116,104,101,114,59,32,125]⟩,.string ⟨#[111,110,32,104,105,116,32,123,32,105,102,32,104,105,116,91,111,116,104,101,114,93,32,61,61,32,115,101,108,102,32,43,32,49,32,38,38,32,97,91,115,101,108,102,93,32,60,32,97,91,111,116,104,101,114,93,32,123,32,118,120,91,115,101,108,102,93,32,61,32,45,118,120,91,115,101,108,102,93,59,32,98,91,115,101,108,102,93,32,61,32,116,105,99,107,59,32,125,32,101,108,115,101,32,123,32,115,116,111,112,59,32,125,32,101,102,102,101,99,116,32,52,44,32,97,91,115,101,108,102,93,59,32,125]⟩,.string ⟨#[111,110,32,116,105,99,107,32,123,32,105,32,61,32,48,59,32,119,104,105,108,101,32,105,32,60,32,52,32,123,32,98,91,105,93,32,61,32,98,91,105,93,32,43,32,115,116,105,108,108,91,105,93,59,32,105,32,61,32,105,32,43,32,49,59,32,125,32,115,32,61,32,115,32,43,32,120,91,48,93,32,47,32,49,48,48,59,32,101,102,102,101,99,116,32,53,44,32,115,59,32,125,32,111,110,32,97,99,116,32,123,32,115,32,61,32,48,59,32,125]⟩]
def Qj:Nat->Nat->Value:=λ i k=>match k with|0=>.string (qC i)|_=>default
theorem zK:aeo 45 #[] (ap [] []) F (λ u H'=>∃q:Nat,H'=ap [(q,.lit Sn 9 (0,0))] []/\u=vS q 0 5 5):=by
 refine QT Tryz.func45<|ae 11 [] λ n1=>QV [] [0] [] (vS (n1+0) 0 5 5) (ap [((n1+0),.lit Sn 9 (0,0))] []) ⟨_,rfl,rfl⟩
theorem ti{n:Int}(hn:qK n):aen 20 #[vI n] F (.string (qC (bj n 5).toNat)):=by
 refine QT Tryz.func20<|OU 7<|SP (zK) ?_;rintro _ q1 rfl;refine OU 1<|aal (kK n 5 (by decide)) ?_;have hA2:=ee (n:=n) hn 5 (by decide);refine aao 0 (.rows 1 5 Qj 9 (0,0))<|ah 5 [.ix ((bj n 5).toNat),.row 0 ((bj n 5).toNat) 0] [(0+((bj n 5).toNat)*1)=((bj n 5).toNat)*1+0/\((bj n 5).toNat)<5,bj n 5=(((bj n 5).toNat:Nat):Int)/\(bj n 5).toNat<5] λ _=>QW _ _ ⟨rfl,rfl⟩
theorem Kw(j:Nat)(hj:j<5)(hE:qD F):aeo 19 #[.string (qC j)] (ap [] []) F (λ u H'=>∃x:Nat×HL,H'=ap [] [x.2]/\(u=.tuple #[vP x.1 0,vI 0]/\Book1 j x.1 x.2)):=by
 refine QT Tryz.func19<|OU 9<|SP (Kv hj (aC hE)) ?_;rintro _ ⟨A1,c2,T3⟩ ⟨rfl,hC4⟩;dsimp only at hC4;refine ae 29 (ow 0 8) λ n5=>QV [] [0,1] [0] (.tuple #[vP (n5+2) 0,vI 0]) (ap [((n5+2),.lit [vS (n5+1) 0 1 1] 118 (0,0)),((n5+1),.lit [vI 0,.slice A1 (gt j) c2,vI (cE j 0),vI (cE j 1),vI (cE j 2)] 115 (0,0))] [T3]) ⟨((n5+2),ap [((n5+2),.lit [vS (n5+1) 0 1 1] 118 (0,0)),((n5+1),.lit [vI 0,.slice A1 (gt j) c2,vI (cE j 0),vI (cE j 1),vI (cE j 2)] 115 (0,0))] [T3]),by simp[ap],rfl,.mk _ _ _ _ hC4⟩
open Go.Shelf
theorem Kx(c0 c1 c2 c3 c4:Value)(F:HL):SpD Tryz.prog 92 #[c0,c1,c2,c3,c4] [] F (λ _ H'=>H'=[]):=by
 intro w hR;refine callsDIn_of_wpSIn (F:=Wr none) (n:=0) Tryz.func92 rfl trivial λ c₀ cs hu=>?_;have hrc:recoverD (c₀::cs)=none:=by simp[recoverD,hu]
 refine wpSIn_seq (wpSIn_region ?_);show wpOpsSIn _ _ _ _ _ [0,1] _ _ _;simp only[wpOpsSIn,ab9,acd,abA];simp[wpOpsSIn,go_sem,hrc,Tryz.ntmps92,Exit.thenS];refine wpSIn_cond (t:=false) (by simp[Act.eval,Array.replicate])<|wpSIn_of_wpIn rfl<|wpIn_skip ?_;simp[bodyPostS,results,Tryz.results92,hu];exact⟨.returning,by cases c₀;simp at hu;subst hu;rfl,hu▸rfl,hR,go _ _⟩
end
end Go.Proofs.YtogafelgppjklaaGreatDoor
