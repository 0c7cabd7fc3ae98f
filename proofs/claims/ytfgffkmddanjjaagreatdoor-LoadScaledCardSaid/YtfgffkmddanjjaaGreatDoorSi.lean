/-
  The simplex method: the first tableau; slices.Clone of fractions.
-/
import Derived.Test.YtfgffkmddanjjaaGreatDoorSh
set_option linter.unusedVariables false
set_option linter.unusedSimpArgs false
set_option maxRecDepth 100000
set_option maxHeartbeats 25600000
namespace Go.Proofs.YtfgffkmddanjjaaGreatDoor
open _root_.Go.Proofs.Tryz
open Go.RowKit
theorem zis (w:World):zaz (w.alloc (.cells #[] 32)) w.heap.size (.slice (some ⟨w.heap.size,0,none⟩) 0 0) [] :=
 ⟨[],World.ownsRow_made w #[] 0 nl (Nat.zero_le _) (by simp),zds w #[] 32 0 0 (by simp),λ i q h => by simp at h⟩
theorem zb9 (l:List Qo) (n b off c:Nat) (w:World) (hn:Hid (n=l.length)) (hl:Hid (l.length<=100000)) (hne:Hid (0 < l.length)) (u:UQ w (some ⟨b,off,none⟩) l) :
  Calls Tryz.prog 31 #[.slice (some ⟨b,off,none⟩) n c] w λ e w' => (∃ v,e=.returned v/\zaz w' w.heap.size v l)/\BH w w':=by
 have q27:∀ (w:World) (a:Option Addr) (n c n' c':Nat),(binOp .eql 33 (.slice a n c) (.slice none n' c')).run Tryz.prog w=.ok (.bool a.isNone) w:=λ w a n c n' c' => Lib.run_eql_slice_nil w _ _ a n c n' c' Tryz.underlying33
 go_enter func31,ntmps31;rw [hn.out];have hba:=bA w (.cells #[] 32);have hm:=zis w;have u2:=u.mono hba;go_wp2_with (at_builtin; go_loud (refine zmY _ w w.heap.size _ [] l (some ⟨b,off,none⟩) c rfl _ _ rfl rfl rfl hm hba.size hba u2 hne.out (by have:=hl.out; simp; omega) ?_); intro v2 w2 hown2 hbel2 hsz2 hgr);go_ret;exact ⟨⟨v2,rfl,by simpa using hown2⟩,hbel2⟩
def zbW (A:List (List Rat)) (b C:List Rat) (m n i j:Nat):Rat :=
 if i < m then (if j < n then (A.getD i []).getD j 0 else if j < n + m then (if i=j - n then 1 else 0) else b.getD i 0) else (if j < n then - (C.getD j 0) else 0)
theorem zcA (L:Nat->Nat->Rat) (i k:Nat):zbf L i (k + 1)=zbf L i k ++ [some (L i k)]:=by
 unfold zbf; rw [List.range_succ,List.map_append]; rfl
section
variable {A : List (List Rat)} {b C a : List Rat} {m n i k : Nat}
theorem zjD (hi:i < m) (ha:A[i]?=some a) (hl:a.length=n):zbf (zbW A b C m n) i n=a.map some:=by
 refine List.ext_getElem? λ c => ?_
 by_cases hc:c < n
 ·rw [zbs hc,List.getElem?_map,gE (by omega),Option.map_some];have e:A.getD i []=a:=by rw [List.getD_eq_getElem?_getD,ha]; rfl
  unfold zbW;rw [if_pos hi,if_pos hc,e,List.getD_eq_getElem?_getD,gE (by omega)]; rfl
 ·rw [List.getElem?_eq_none (by rw [zal]; omega),List.getElem?_eq_none (by rw [List.length_map]; omega)]
theorem zhh (hi:i < m) (hk:k < m):zbW A b C m n i (n + k)=if k=i then 1 else 0:=by
 unfold zbW;rw [if_pos hi,if_neg (by omega),if_pos (by omega),show n + k - n=k by omega]
 by_cases e:i=k
 ·rw [if_pos e,if_pos e.symm]
 ·rw [if_neg e,if_neg λ h => e h.symm]
theorem zmu {x:Rat} (hi:i < m) (hb:b[i]?=some x):zbW A b C m n i (n + m)=x:=by
 unfold zbW;rw [if_pos hi,if_neg (by omega),if_neg (by omega),List.getD_eq_getElem?_getD,hb]; rfl
theorem zmt {x:Rat} (hk:k < n) (hc:C[k]?=some x):zbW A b C m n m k=- x:=by
 unfold zbW;rw [if_neg (by omega),if_pos hk,List.getD_eq_getElem?_getD,hc]; rfl
theorem zms:zbW A b C m n m (n + k)=0:=by
 unfold zbW;rw [if_neg (by omega),if_neg (by omega)]
end
theorem zkp (n i:Nat):(List.range i).map (n + ·) ++ [n + i]=(List.range (i + 1)).map (n + ·):=by
 rw [List.range_succ,List.map_append]; rfl
theorem zgT {ow:List (Value × List Qo)} {f:Nat->List Qo} {i:Nat} {x:Value} {l:List Qo} (h:ow.map (·.2)=(List.range i).map f) (hl:l=f i):(ow ++ [(x,l)]).map (·.2)=(List.range (i + 1)).map f:=by
 rw [List.map_append,h,List.range_succ,List.map_append,hl]; rfl
section
variable {ops : Array Oper} {rest : List Oper} {o : Oper} {a : Act} {Q : Exit → Act → World → Prop}
theorem zlV (wo W:World) (g:Nat) (hgd:o.guard=none) (s x:Operand) (ho:o.op=.call { callee:=.builtin .append,args:=#[s,x],argTypes:=#[103,103] })
  {vA vB:Value} {bs:List Nat} {ow:List (Value × List Qo)} {ar:Option Addr} {n cr:Nat} {l:List Qo} (hs:a.eval s=vA) (hx:a.eval x=.slice (some ⟨W.heap.size,0,none⟩) 1 1) (hT:TG wo (g + 1) g vA vB bs ow) (hbo:BH wo W)
  (hown:zaz W wo.heap.size (.slice ar n cr) l) (hl:ow.length<=1000000)
  (hK:∀ a' n' c' w',TG w' (g + 1) g (.slice a' n' c') vB bs (ow ++ [(.slice ar n cr,l)])->Below (g + 1) W w'->wpList Tryz.prog ops Q rest (a.put o.dst (.slice a' n' c')) w') :
  wpList Tryz.prog ops Q (o :: rest) a (W.alloc (.cells #[.slice ar n cr] 33)):=by
 have hba:=bA W (.cells #[.slice ar n cr] 33);have hsz:=hba.size;have hgo:=hT.gl;have hso:=hbo.size;obtain ⟨v',w',hr,ht,hb,gr⟩:=hT.appA (X:=W) (bu hbo hba) (hown.mono hba) (by omega) ((Below.refl _ W).alloc (by omega) _) o.type (bx:=W.heap.size) (c:=1) (by simp [go_sem]) hl;refine wpList_plain hgd λ K hK' => ?_
 unfold Oper.wp;simp [execOp,ho,resolve,invoke,builtin,hs,hx,hr,Result.andThen];obtain ⟨a',n',c',rfl⟩:=ht.slA;exact hK' _ _ (hK a' n' c' w' ht hb)
end
theorem zko (A:List (List Rat)) (b C:List Rat) (m n:Nat) (hA:Hid (A.length=m/\∀ r∈A,r.length=n)) (hB:Hid (b.length=m)) (hC:Hid (C.length=n)) (hm:1<=m/\m<=1000) (hn:1<=n/\n<=1000) (aA aB aC:Option Addr) (cA cB cC:Nat) (w:World) (uA:UM w aA (A.map (·.map some))) (uB:UQ w aB (b.map some)) (uC:UQ w aC (C.map some)) (hE:Env w) :
  Calls Tryz.prog 115 #[.agg #[.slice aA m cA,.slice aB m cB,.slice aC n cC]] w λ e w' => (∃ g ga ca gb cb rr cr,e=.returned (.pointer (some ⟨g,0,none⟩))/\TB w' w.heap.size g ga ca gb cb m n (n + m) rr cr (zbW A b C m n) (λ i => n + i))/\BH w w':=by
 have hE0:=hE;go_enter func115,ntmps115;go_upto_region 1 with fail;have hb:=bA w (.cells #[.slice aA m cA,.slice aB m cB,.slice aC n cC] 105);have r1:Row (w.alloc (.cells #[.slice aA m cA,.slice aB m cB,.slice aC n cC] 105)) w.heap.size 105 [.slice aA m cA,.slice aB m cB,.slice aC n cC]:=heap_alloc_new _ _;have hsz:(w.alloc (.cells #[.slice aA m cA,.slice aB m cB,.slice aC n cC] 105)).heap.size=w.heap.size + 1:=by simp
 obtain ⟨g1,hg⟩:=exi (w.heap.size);rw [<- hg] at r1 hsz |-;have Hg1:Hid (w.heap.size=g1):=hii hg.symm;clear hg;generalize w.alloc (.cells #[.slice aA m cA,.slice aB m cB,.slice aC n cC] 105)=w1 at *;have Hsz:=hii hsz;have hbw:=hb;clear hb hsz;obtain ⟨x0,x1,x2⟩:=r1.n3;go_upto_region 2 with fail;clear x0 x1 x2;have hb:=bA w1 (.cells #[.int .i64 (m:Nat),.int .i64 (n:Nat),.slice none 0 0,.slice none 0 0,.int .i64 0] 164);have rg:Row (w1.alloc (.cells #[.int .i64 (m:Nat),.int .i64 (n:Nat),.slice none 0 0,.slice none 0 0,.int .i64 0] 164)) w1.heap.size 164 [.int .i64 (m:Nat),.int .i64 (n:Nat),.slice none 0 0,.slice none 0 0,.int .i64 0]:=heap_alloc_new _ _;obtain ⟨g,hg⟩:=exi (w1.heap.size);rw [<- hg] at rg |-;have Hg:Hid (g=g1 + 1):=hii (by rw [hg,Hsz.out]);clear hg;generalize w1.alloc (.cells #[.int .i64 (m:Nat),.int .i64 (n:Nat),.slice none 0 0,.slice none 0 0,.int .i64 0] 164)=w2 at *;have r1:=r1.below hb;have hbw:=bu hbw hb;clear hb Hsz;have hwg:Hid (w.heap.size<=g1/\g1 < g):=hii (by have:=Hg1.out; have:=Hg.out; omega);obtain ⟨x0,x1,x2⟩:=r1.n3;go_wp2_with fail;clear x0 x1 x2;go_loopw [22] (λ s wr => ∃ (i:Nat) (vA vB:Value) (ow:List (Value × List Qo)),i<=m/\s=.int .i64 (i:Nat)/\Row wr g 164 [.int .i64 (m:Nat),.int .i64 (n:Nat),vA,vB,.int .i64 0]/\Row wr g1 105 [.slice aA m cA,.slice aB m cB,.slice aC n cC]/\TG wr (g + 1) g vA vB ((List.range i).map (n + ·)) ow/\Hid (ow.map (·.2)=(List.range i).map λ t => zbf (zbW A b C m n) t (n + m + 1))/\BH w wr) (λ s _ => m - (intOf s).toNat)
 case atStart => exact ⟨0,_,_,[],Nat.zero_le _,rfl,rg,r1,TG.nil rg.lt,hii rfl,hbw⟩
 case round =>
  clear rg r1 hbw;obtain ⟨i,vA,vB,ow,hi,rfl,rg,r1,hT,HO,hbw⟩:=hrel;have HOl:Hid (ow.length=i):=hii (by have:=congrArg List.length HO.out; simpa using this);have hnA:zaI vA:=by obtain ⟨_,_,_,rfl⟩:=hT.slA; intro z e; cases e
  have hnB:zaI vB:=by obtain ⟨_,_,_,rfl⟩:=hT.slB; intro z e; cases e
  have HnA:=hii hnA;have HnB:=hii hnB;clear hnA hnB
  by_cases hlt:i < m
  ·have hAi:i < A.length:=by rw [hA.out.1]; exact hlt
   obtain ⟨a,ha⟩:∃ a,A[i]?=some a:=⟨A[i],gE hAi⟩;have han:=hA.out.2 a (List.mem_of_getElem? ha);have HR0:=hii (zjD (b:=b) (C:=C) hlt ha han);obtain ⟨b0,off0,ar,cr,ea,hc,ur⟩:=(uA.mono hbw) i (a.map some) (by rw [List.getElem?_map,ha]; rfl);rw [List.length_map,han] at hc;have Hll:Hid (n=(a.map some).length):=hii (by rw [List.length_map,han]);obtain ⟨b2,off2,ear⟩:∃ b2 off2,ar=some ⟨b2,off2,none⟩:=by
    have h0:0 < (a.map some).length:=by rw [<- Hll.out]; omega
    obtain ⟨b2,off2,_,_,_,_,_,_,_,_,e,_⟩:=ur 0 (a.map some)[0] (gE h0);exact ⟨b2,off2,e⟩
   clear hAi ha han;subst ea;subst ear;have hxi:(i:Int) < (m:Int):=by omega
   go_wp2_with fail;go_fit (zb9 (a.map some) n b2 off2 cr wr Hll (hii (by rw [<- Hll.out]; omega)) (hii (by rw [<- Hll.out]; omega)) ur);rintro e w3 ⟨⟨v6,rfl,hown⟩,hb3⟩;rw [<- HR0.out] at hown;obtain ⟨wo,rfl⟩:=exi wr;have hwo:=hbw;have rgo:=rg;have r1o:=r1;have hbo:=hb3;have hs0:Hid (g + 1<=wo.heap.size):=hii hT.gl;have hown0:zaz w3 wo.heap.size v6 (zbf (zbW A b C m n) i (n + 0)):=hown;clear hc ur hb3 hown;obtain ⟨x0,x1,x2,x3,x4⟩:=(rgo.below hbo).n5;go_wp2_with fail;clear x0 x1 x2 x3 x4;go_loopw [6,33] (λ s6 s33 wr => ∃ k:Nat,k<=m/\s33=.int .i64 (k:Nat)/\zaz wr wo.heap.size s6 (zbf (zbW A b C m n) i (n + k))/\BH wo wr) (λ _ s33 _ => m - (intOf s33).toNat)
   case atStart => exact ⟨0,Nat.zero_le _,rfl,hown0,hbo⟩
   case round =>
    clear hbo hown0;obtain ⟨k,hk,rfl,hown,hbo⟩:=hrel;have hEr:=(hE0.mono hwo).mono hbo
    by_cases hkm:k < m
    ·have HS:Hid (zbf (zbW A b C m n) i (n + (k + 1))=zbf (zbW A b C m n) i (n + k) ++ [some (if k=i then 1 else 0)]):=hii (by rw [<- zhh (A:=A) (b:=b) (C:=C) (n:=n) hlt hkm]; exact zcA _ _ _);have hlen:(zbf (zbW A b C m n) i (n + k)).length<=100000:=by rw [zal]; omega
     have Hlen:=hii hlen;clear hlen
     by_cases hki:k=i
     ·have gk:((k:Int) == (i:Int))=true:=by simp [hki]
      rw [if_pos hki] at HS;clear hki;go_wp2_with fail;go_fit (zla wr hEr);rintro e v1 ⟨hz,hb⟩;obtain ⟨ng,ao,nn,cap,nh,ap,mm,caq,rfl,hV⟩:=hz.rat;have hown:=hown.mono hb;have hbo:=bu hbo hb;have hsz:=hbo.size;clear hb;go_wp2_with (at_builtin; refine zg9 _ wo rfl (.tmp 39) (.tmp 41) rfl wo.heap.size _ _ rfl hown hsz hbo hV rfl Hlen.out ?_; intro v3 w4 hown3 hbel3);go_roundw
      case rel => exact ⟨k + 1,by omega,by go_num,by rw [HS.out]; exact hown3,hbel3⟩
      case measure => simp [intOf]; omega
     ·have gk:((k:Int) == (i:Int))=false:=by simp; omega
      rw [if_neg hki] at HS;clear hki;go_wp2_with fail;go_fit (zee wr hEr);rintro e v1 ⟨hz,hb⟩;obtain ⟨ng,ao,nn,cap,nh,ap,mm,caq,rfl,hV⟩:=hz.rat;have hown:=hown.mono hb;have hbo:=bu hbo hb;have hsz:=hbo.size;clear hb;go_wp2_with (at_builtin; refine zg9 _ wo rfl (.tmp 43) (.tmp 45) rfl wo.heap.size _ _ rfl hown hsz hbo hV rfl Hlen.out ?_; intro v3 w4 hown3 hbel3);go_roundw
      case rel => exact ⟨k + 1,by omega,by go_num,by rw [HS.out]; exact hown3,hbel3⟩
      case measure => simp [intOf]; omega
    ·have hke:k=m:=by omega
     have gkd:decide ((k:Int) < (m:Int))=false:=decide_eq_false (by omega);rw [show n + k=n + m by omega] at hown;clear hke hk;obtain ⟨b6,c6,e6⟩:=hown.addr' (by rw [zal]; omega);rw [zal] at e6;subst e6;have hownm:=hown;clear hown;have hbi:i < b.length:=by rw [hB.out]; exact hlt
     obtain ⟨bi,hbi0⟩:∃ x,b[i]?=some x:=⟨b[i],gE hbi⟩;have HBI:=hii (zmu (A:=A) (C:=C) (n:=n) hlt hbi0);obtain ⟨b1,off1,J5,ao5,n5,Y5,K5,ap5,m5,Z5,eb,z5,V5⟩:=uB i (some bi) (by rw [List.getElem?_map,hbi0]; rfl);have V5:zac w (qA J5 ao5 n5 Y5 K5 ap5 m5 Z5) bi:=V5;clear hbi hbi0;subst eb;have Hbw:Hid (BH w wr):=hii (hwo.trans (hbo.mono hwo.size));go_upto_region 13 with fail;refine zop (w0:=w) (wo:=wo) Hbw.out hwo hwg.out rgo r1o hT hbo hownm hlt z5 V5 (by rw [zal]; omega) (by have:=HOl.out; omega) HnA.out HnB.out ?_;rintro T w5 x vA2 hT2 rg2 r12 hb5;have HO2:Hid ((ow ++ [(x,zbf (zbW A b C m n) i (n + m) ++ [some bi])]).map (·.2)=(List.range (i + 1)).map λ t => zbf (zbW A b C m n) t (n + m + 1)):=hii (zgT HO.out (by rw [zcA,HBI.out]));have hnA2:zaI vA2:=by obtain ⟨_,_,_,rfl⟩:=hT2.slA; intro z e; cases e
     clear hT rgo r1o hbo hownm HO;go_upto_region 14 with fail;refine zoo (w0:=w) hb5 hwg.out rg2 r12 hT2 (by omega) (by simp; omega) hnA2 HnB.out ?_;rintro T2 w6 vB2 hT3 rg3 r13 hb6;rw [zkp] at hT3;clear hT2 rg2 r12 hb5;go_wp2;go_roundw
     case rel => exact ⟨i + 1,vA2,vB2,_,by omega,by go_num,rg3,r13,hT3,HO2,hb6⟩
     case measure => simp [intOf]; omega
  ·have hie:i=m:=by omega
   have gid:decide ((i:Int) < (m:Int))=false:=decide_eq_false (by omega);have hTm:TG wr (g + 1) g vA vB ((List.range m).map (n + ·)) ow:=by rw [show List.range m=List.range i by rw [hie]]; exact hT
   have HOm:Hid (ow.map (·.2)=(List.range m).map λ t => zbf (zbW A b C m n) t (n + m + 1)):=hii (by rw [show List.range m=List.range i by rw [hie]]; exact HO.out);have HOl:Hid (ow.length=m):=hii (HOl.out.trans hie);clear hie hT HO hi;obtain ⟨wo,rfl⟩:=exi wr;have hs0:Hid (g + 1<=wo.heap.size):=hii hTm.gl;have hown0:zaz wo wo.heap.size (.slice none 0 0) (zbf (zbW A b C m n) m 0):=zaz.nil _ _;have hb0:=Below.refl wo.heap.size wo;obtain ⟨x0,x1,x2⟩:=r1.n3;go_wp2_with fail;clear x0 x1 x2;go_loopw [8,84] (λ s8 s84 wr => ∃ k:Nat,k<=n/\s84=.int .i64 (k:Nat)/\zaz wr wo.heap.size s8 (zbf (zbW A b C m n) m k)/\BH wo wr) (λ _ s84 _ => n - (intOf s84).toNat)
   case atStart => exact ⟨0,Nat.zero_le _,rfl,hown0,hb0⟩
   case round =>
    clear hown0 hb0;obtain ⟨k,hk,rfl,hown,hbo⟩:=hrel
    by_cases hkn:k < n
    ·have hck:k < C.length:=by rw [hC.out]; exact hkn
     obtain ⟨x,hx⟩:∃ x,C[k]?=some x:=⟨C[k],gE hck⟩;have HS:Hid (zbf (zbW A b C m n) m (k + 1)=zbf (zbW A b C m n) m k ++ [some (-x)]):=hii (by rw [<- zmt (A:=A) (b:=b) (m:=m) hkn hx]; exact zcA _ _ _);have Hlen:Hid ((zbf (zbW A b C m n) m k).length<=100000):=hii (by rw [zal]; omega);have hbwr:=hbw.trans (hbo.mono hbw.size);obtain ⟨b3,off3,J5,ao5,n5,Y5,K5,ap5,m5,Z5,ec,z5,V5⟩:=(uC.mono hbwr) k (some x) (by rw [List.getElem?_map,hx]; rfl);have V5:zac wr (qA J5 ao5 n5 Y5 K5 ap5 m5 Z5) x:=V5;clear hck hx;subst ec;obtain ⟨f0,f1,f2,f3,_,_,_,_⟩:=id z5;go_upto_region 20 with fail;have r10:Row (wr.alloc (.cells #[.bool J5,.slice ao5 n5 Y5,.bool K5,.slice ap5 m5 Z5] 32)) wr.heap.size 32 [.bool J5,.slice ao5 n5 Y5,.bool K5,.slice ap5 m5 Z5]:=heap_alloc_new _ _;have hb:=bA wr (.cells #[.bool J5,.slice ao5 n5 Y5,.bool K5,.slice ap5 m5 Z5] 32);obtain ⟨g10,hg⟩:=exi (wr.heap.size);rw [<- hg] at r10 |-;clear hg;generalize wr.alloc (.cells #[.bool J5,.slice ao5 n5 Y5,.bool K5,.slice ap5 m5 Z5] 32)=v0 at *;have V5:=V5.mono hb;have hown:=hown.mono hb;have hbo:=bu hbo hb;have hEr:=(hE0.mono hbw).mono hbo;clear hb f0 f1 f2 f3 z5 hbwr;obtain ⟨f0,f1,f2,f3⟩:=r10.n4;go_wp2_with fail;go_fit (zei _ x v0 V5 hEr);rintro e v1 ⟨hz,hb⟩;obtain ⟨ng,ao,nn,cap,nh,ap,mm,caq,rfl,hV⟩:=hz.rat;have hown:=hown.mono hb;have hbo:=bu hbo hb;have hsz:=hbo.size;clear hb f0 f1 f2 f3 r10;go_wp2_with (at_builtin; refine zg9 _ wo rfl (.tmp 88) (.tmp 91) rfl wo.heap.size _ _ rfl hown hsz hbo hV rfl Hlen.out ?_; intro v3 w4 hown3 hbel3);go_roundw
     case rel => exact ⟨k + 1,by omega,by go_num,by rw [HS.out]; exact hown3,hbel3⟩
     case measure => simp [intOf]; omega
    ·have hke:k=n:=by omega
     have gkd:decide ((k:Int) < (n:Int))=false:=decide_eq_false (by omega);rw [show k=n + 0 by omega] at hown;have hown0:=hown;clear hke hown hk;have hb0:=hbo;clear hbo;obtain ⟨x0,x1,x2,x3,x4⟩:=(rg.below hb0).n5;obtain ⟨wp,rfl⟩:=exi wr;go_wp2_with fail;clear x0 x1 x2 x3 x4;go_loopw [8,99] (λ s8 s99 wr => ∃ k:Nat,k<=m + 1/\s99=.int .i64 (k:Nat)/\zaz wr wo.heap.size s8 (zbf (zbW A b C m n) m (n + k))/\BH wo wr) (λ _ s99 _ => m + 1 - (intOf s99).toNat)
     case atStart => exact ⟨0,Nat.zero_le _,rfl,hown0,hb0⟩
     case round =>
      clear hown0 hb0;obtain ⟨k,hk,rfl,hown,hbo⟩:=hrel;have hEr:=(hE0.mono hbw).mono hbo
      by_cases hkn:k < m + 1
      ·have HS:Hid (zbf (zbW A b C m n) m (n + (k + 1))=zbf (zbW A b C m n) m (n + k) ++ [some 0]):=hii (by rw [<- zms (A:=A) (b:=b) (C:=C) (m:=m) (n:=n) (k:=k)]; exact zcA _ _ _);have Hlen:Hid ((zbf (zbW A b C m n) m (n + k)).length<=100000):=hii (by rw [zal]; omega);have gk1:(k:Int) < (m:Int) + 1:=by omega
       go_wp2_with fail;go_fit (zee wr hEr);rintro e v1 ⟨hz,hb⟩;obtain ⟨ng,ao,nn,cap,nh,ap,mm,caq,rfl,hV⟩:=hz.rat;have hown:=hown.mono hb;have hbo:=bu hbo hb;have hsz:=hbo.size;clear hb;go_wp2_with (at_builtin; refine zg9 _ wo rfl (.tmp 101) (.tmp 103) rfl wo.heap.size _ _ rfl hown hsz hbo hV rfl Hlen.out ?_; intro v3 w4 hown3 hbel3);go_roundw
       case rel => exact ⟨k + 1,by omega,by go_num,by rw [HS.out]; exact hown3,hbel3⟩
       case measure => simp [intOf]; omega
      ·have hke:k=m + 1:=by omega
       have gkd2:decide ((k:Int) < (m:Int) + 1)=false:=decide_eq_false (by omega);rw [show n + k=n + m + 1 by omega] at hown;have hownm:=hown;clear hke hown hk hkn;obtain ⟨b8,c8,e8⟩:=hownm.addr' (by rw [zal]; omega);rw [zal] at e8;subst e8;have rgw:=rg.below hbo;obtain ⟨x0,x1,x2,x3,x4⟩:=(rgw.below (bA wr (.cells #[.slice (some ⟨b8,0,none⟩) (n + m + 1) c8] 33))).n5;obtain ⟨y0,y1,y2,y3,y4⟩:=rgw.n5;obtain ⟨aA2,nA2,cA2,rfl⟩:=hTm.slA;go_wp2_with (at_builtin; go_loud (refine zlV wo wr g rfl (.tmp 110) (.tmp 112) rfl rfl rfl hTm hbo hownm (by have:=HOl.out; omega) ?_); intro a' n' c' w4 ht4 hb4; have rg4:=rgw.under hb4 (Nat.lt_succ_self g); have fz4:=rg4.free 2; clear x0 x1 x2 x3 x4 y0 y1 y2 y3 y4; obtain ⟨z0,z1,z2,z3,z4⟩:=rg4.n5);go_ret;have hno:=rg4.noU (by intro u hu; simp only [List.mem_cons,List.not_mem_nil,or_false] at hu; rcases hu with h | h | h | h | h <;> rw [h] <;> first | exact HnB.out | (intro z e; cases e));have hk4:=(zaf.refl w4:zaf (λ b => b=g) w4 w4).setCell (p:=⟨g,2,none⟩) rfl (.slice a' n' c');have hTf:=(ht4.keptg hk4 hno).low (B':=w.heap.size) (by have:=hwg.out; omega);have hbf:Below w.heap.size w (w4.setCell ⟨g,2,none⟩ (.slice a' n' c')):=((hbw.trans (hbo.mono hbw.size)).trans (hb4.mono (by have:=hwg.out; omega))).trans (hk4.below (λ b e => by have:=hwg.out; omega) (by have:=hbw.size; have:=hbo.size; have:=hb4.size; omega));obtain ⟨ga,ca,gb,cb,rr,cr,hTB⟩:=hTf.tb (L:=(zbW A b C m n)) (b0:=λ i => n + i) ⟨w,hE0,rfl,hbf⟩ (rg4.set 2 _) (by have:=hwg.out; omega) (zgT HOm.out rfl) rfl (by omega) ⟨hm.2,hn.2⟩ rfl;exact ⟨⟨g,ga,ca,gb,cb,rr,cr,rfl,hTB⟩,hbf⟩
end Go.Proofs.YtfgffkmddanjjaaGreatDoor
