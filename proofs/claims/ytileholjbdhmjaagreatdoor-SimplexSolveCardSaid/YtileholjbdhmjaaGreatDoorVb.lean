/-
  The reference's rank of a matrix whose kernel is 0: its number of columns.
-/
import Derived.Test.YtileholjbdhmjaaGreatDoorVa
import Derived.Test.YtileholjbdhmjaaGreatDoorVe
import Derived.Test.YtileholjbdhmjaaGreatDoorSxR
set_option linter.unusedVariables false
set_option linter.unusedSimpArgs false
set_option maxRecDepth 100000
set_option maxHeartbeats 25600000
namespace Go.Proofs.YtileholjbdhmjaaGreatDoor
open Go.RowKit
theorem TG.rw {W:World} {B g m n:Nat} {vA vB:Value} {bs:List Nat} {ow:List (Value × List Qo)} {L:Nat→Nat→Rat} (h:TG W B g vA vB bs ow) (how:ow.map (·.2)=(List.range m).map fun i => rowQ L i n) (hm:0 < m) (hn:0 < n) :
  ∃ ga ca rr cr,vA=.slice (some ⟨ga,0,none⟩) m ca∧RW W B ga ca m n rr cr L:=by
 have hlo:ow.length=m:=by have:=congrArg List.length how; simpa using this
 have hget:∀ i,i < m→∃ p,ow[i]?=some p∧p.2=rowQ L i n:=fun i hi => by
  have hi':i < ow.length:=by omega
  refine ⟨ow[i],gE hi',?_⟩;have h1:=congrArg (fun l => l[i]?) how;simp only [List.getElem?_map,gE hi',List.getElem?_range hi,Option.map_some,Option.some.injEq] at h1;exact h1
 have hex:∀ i,∃ rc:Nat × Nat,i < m→ow[i]?=some (.slice (some ⟨rc.1,0,none⟩) n rc.2,rowQ L i n):=fun i => by
  by_cases hi:i < m
  ·obtain ⟨p,hp,e⟩:=hget i hi;obtain ⟨g',cap,e2⟩:=(h.o p (List.mem_of_getElem? hp)).1.addr' (by rw [e,rowQ_length]; omega);rw [e,rowQ_length] at e2;refine ⟨(g',cap),fun _ => ?_⟩;rw [hp]; exact congrArg some (Prod.ext e2 e)
  ·exact ⟨(0,0),fun h => absurd h hi⟩
 obtain ⟨rc,hrc⟩:=Classical.axiomOfChoice hex;obtain ⟨ga,ca,eA⟩:∃ ga ca,vA=.slice (some ⟨ga,0,none⟩) m ca:=by
  rcases h.oA.1.2 with ⟨_,hn⟩ | ⟨g',cap,cur,e,_⟩
  ·rw [List.length_map,hlo] at hn; omega
  ·rw [List.length_map,hlo] at e; exact ⟨g',cap,e⟩
 subst eA;have hmem:∀ i,i < m→(Value.slice (some ⟨(rc i).1,0,none⟩) n (rc i).2,rowQ L i n)∈ow:=fun i hi => List.mem_of_getElem? (hrc i hi)
 have exs:ow.map (·.1)=rsl (fun i => (rc i).1) (fun i => (rc i).2) n m:=by
  refine List.ext_getElem? fun c => ?_
  by_cases hc:c < m
  ·rw [rsl_get hc,List.getElem?_map,hrc c hc]; rfl
  ·rw [List.getElem?_eq_none (by rw [List.length_map]; omega),List.getElem?_eq_none (by rw [rsl_len]; omega)]
 refine ⟨ga,ca,fun i => (rc i).1,fun i => (rc i).2,rfl,?_,h.oA.2,fun i hi => (h.o _ (hmem i hi)).1,fun i t hi ht' e => ?_,fun i hi e => (h.o _ (hmem i hi)).2.1 ga rfl (by rw [← e]; rfl)⟩
 ·have:=h.oA.1;unfold OwnS at this;rw [exs,rsl_len] at this;exact this
 ·by_cases hit:i=t
  ·exact hit
  ·exfalso
   have key:∀ i t,i < t→t < m→(rc i).1=(rc t).1→False:=fun i t hlt ht e => by
    have h1:=hrc i (by omega);have h2:=hrc t ht;have li:i < ow.length:=by omega
    have lt:t < ow.length:=by omega
    have hs:=List.pairwise_iff_getElem.1 h.s i t li lt hlt;rw [gE li] at h1;rw [gE lt] at h2;simp only [Option.some.injEq] at h1 h2;rw [h1,h2] at hs;exact hs (rc i).1 rfl (by rw [e]; rfl)
   rcases Nat.lt_or_gt_of_ne hit with hlt | hlt
   ·exact key i t hlt ht' e
   ·exact key t i hlt hi e.symm
section
variable {ops : Array Oper} {rest : List Oper} {o : Oper} {a : Act} {Q : Exit → Act → World → Prop}
theorem app_tg (W0 W X:World) (B g:Nat) (hgd:o.guard=none) (s x:Operand) (ho:o.op=.call { callee:=.builtin .append,args:=#[s,x],argTypes:=#[27,27] })
  {vA:Value} {ow:List (Value × List Qo)} {ar:Option Addr} {nn cr:Nat} {l:List Qo} (hs:a.eval s=vA) (hxx:a.eval x=.slice (some ⟨W.heap.size,0,none⟩) 1 1) (hT:TG W0 B g vA (.slice none 0 0) [] ow) (hbW:Below W0.heap.size W0 W) (hx:OwnO W W0.heap.size (.slice ar nn cr) l) (hB:B≤W0.heap.size) (hb:Below B X W) (hl:ow.length≤1000000)
  (hK:∀ v' w',TG w' B g v' (.slice none 0 0) [] (ow ++ [(.slice ar nn cr,l)])→Below B X w'→wpList Tryz.prog ops Q rest (a.put o.dst v') w') :
  wpList Tryz.prog ops Q (o :: rest) a (W.alloc (.cells #[.slice ar nn cr] 28)):=by
 have hba:=bA W (.cells #[.slice ar nn cr] 28);have hc:(W.alloc (.cells #[.slice ar nn cr] 28)).cell? ⟨W.heap.size,0,none⟩=some (.slice ar nn cr):=by simp [go_sem]
 obtain ⟨v',w',hr,h2,h3,_⟩:=hT.appA (W':=W.alloc (.cells #[.slice ar nn cr] 28)) (X:=X) (hbW.trans (hba.mono hbW.size)) (hx.mono hba) hB (hb.alloc (Nat.le_trans hB hbW.size) _) o.type hc hl;refine wpList_plain hgd fun K hK' => ?_
 exact oper_append s x ho hs hxx hr (hK' _ _ (hK v' w' h2 h3))
end
theorem zsm (f:Rat):(0:Rat)=0 - f * 0:=by grind
theorem zsz (x:Rat):x=x - 0:=by grind
theorem num_zero {r:Rat}:r.num=0↔r=0:=Rat.num_eq_zero
theorem rank_ok (M:List (List Rat)) (n K:Nat) (hl:Hid (1≤M.length∧M.length≤100)) (hn:Hid (1≤n∧n≤8)) (hr:Hid (∀ r∈M,r.length=n)) (hw:Hid (∀ r∈M,∀ x∈r,Sx.Wh x K)) (hK:Hid (∀ k,k≤8→Sx.dz K k≤KK))
  (hk:Hid (∀ z:Nat→Rat,(∀ i,i < M.length→Du.sm n (fun j => (M.getD i []).getD j 0 * z j)=0)→∀ j,j < n→z j=0)) (aM:Option Addr) (cM:Nat) (w:World) (uM:UM w aM (M.map (·.map some))) (hE:Env w) :
  Calls Tryz.prog 50 #[.slice aM M.length cM] w fun e w' => e=.returned (.int .i64 (n:Nat))∧Below w.heap.size w w':=by
 obtain ⟨R,hR⟩:∃ R,M.length=R:=⟨_,rfl⟩;have HR:=hii hR;have hR1:1≤R∧R≤100:=by rw [← hR]; exact hl.out
 have hn1:=hn.out;obtain ⟨L0,hL0⟩:∃ L0:Nat→Nat→Rat,L0=fun i j => (M.getD i []).getD j 0:=⟨_,rfl⟩
 have HL0:=hii hL0;have HM0:Hid (∀ i j,j < n→Sx.Wh (L0 i j) K):=hii fun i j _ => by
  rw [hL0]
  show Sx.Wh ((M.getD i []).getD j 0) K
  rw [List.getD_eq_getElem?_getD (l:=M)]
  cases ha:M[i]? with
  | none => exact getD_wh (l:=[]) (fun x h => by simp at h) j
  | some r => exact getD_wh (hw.out r (List.mem_of_getElem? ha)) j
 have Hk:Hid (∀ z:Nat→Rat,(∀ i,i < R→Du.sm n (fun j => L0 i j * z j)=0)→∀ j,j < n→z j=0):=hii (by rw [hL0,← hR]; exact hk.out);have HRW:Hid (∀ (i:Nat) (a:List Rat),M[i]?=some a→a.map some=rowQ L0 i n):=hii fun i a ha => by
  rw [hL0,vq_list (hr.out a (List.mem_of_getElem? ha))];refine rowQ_congr fun j _ => ?_
  rw [List.getD_eq_getElem?_getD (l:=M),ha]; rfl
 rw [hR];clear hL0 hR hk hw hl;obtain ⟨g0,Hg0⟩:∃ g0,g0 < w.heap.size:=by
  obtain ⟨a,ha⟩:∃ a,M[0]?=some a:=⟨M[0]'(by rw [HR.out]; omega),gE _⟩;obtain ⟨b,off,ar,cr,_,hc,_⟩:=uM 0 (a.map some) (by rw [List.getElem?_map,ha]; rfl);exact ⟨b,cell_lt hc⟩
 have HG0:=hii Hg0;clear Hg0;go_enter Tryz.func50,Tryz.ntmps50;go_wp2_with fail;go_loopw [3,4] (fun s c wr => ∃ (i:Nat) (ow:List (Value × List Qo)),i≤R∧c=.int .i64 (i:Nat)∧TG wr w.heap.size g0 s (.slice none 0 0) [] ow∧Hid (ow.map (·.2)=(List.range i).map fun t => rowQ L0 t n)∧Below w.heap.size w wr) (fun _ c _ => R - (intOf c).toNat)
 case atStart => exact ⟨0,[],Nat.zero_le _,rfl,TG.nil HG0.out,hii rfl,br⟩
 case round =>
  obtain ⟨i,ow,hi,rfl,hT,HO,hbr⟩:=hrel
  by_cases hlt:i < R
  ·obtain ⟨a,ha⟩:∃ a,M[i]?=some a:=⟨M[i]'(by rw [HR.out]; omega),gE _⟩;obtain ⟨b0,off0,ar,cr,ea,hc,ur⟩:=(uM.mono hbr) i (a.map some) (by rw [List.getElem?_map,ha]; rfl);have hla:(a.map some).length=n:=by rw [List.length_map,hr.out a (List.mem_of_getElem? ha)]
   have Hla:Hid (0 < (a.map some).length∧0 + (a.map some).length≤1000000):=hii (by omega);have HC:Hid ((ow ++ [(Value.slice none 0 0,a.map some)]).map (·.2)=(List.range (i + 1)).map fun t => rowQ L0 t n):=hii (by
    rw [List.map_append,HO.out,range_snoc];exact congrArg _ (congrArg (fun x => [x]) (HRW.out i a ha)))
   have how:ow.length≤1000000:=by have:=congrArg List.length HO.out; simp only [List.length_map,List.length_range] at this; omega
   have hba:=bA wr (.cells #[] 38);have hm0:=ownO_made wr;have u2:=ur.mono hba;have hc2:=(hba.cell (p:=⟨b0,off0 + i,none⟩) (cell_lt hc)).trans hc;have hsz:=hbr.size;subst ea;clear ha ur hc;rw [hla] at hc2;go_wp2_with (first
    | (at_builtin; refine app_os _ wr wr.heap.size _ [] (a.map some) ar cr rfl (.tmp 21) (.tmp 25) rfl rfl (by rw [hla]; rfl) hm0 hba.size hba u2 Hla.out.1 Hla.out.2 ?_; intro v2 w2 hown2 hbel2 hsz2 hgr2; obtain ⟨a9,n9,c9,rfl⟩:=hown2.sl)
    | (at_builtin; refine app_tg wr w2 w w.heap.size g0 rfl (.tmp 20) (.tmp 27) rfl rfl rfl hT hbel2 hown2 hsz (hbr.trans (hbel2.mono hsz)) how ?_; intro v3 w3 hT3 hbel3))
   go_roundw
   case rel => exact ⟨i + 1,_,by omega,by go_num,hT3,hii (by have:=HC.out; simpa using this),hbel3⟩
   case measure => simp [intOf]; omega
  ·have hie:i=R:=by omega
   rw [hie] at HO;obtain ⟨ga,ca,rr,cr,e3,hW⟩:=hT.rw HO.out (by omega) (by omega);subst e3;have HEch:Hid (Sx.Ech R n 0 L0 L0 (fun i => i)):=hii Sx.Ech.start;clear hT HO hi hie;go_wp2_with fail;clear hlt;go_loopw [5,6] (fun s c wr => ∃ (k:Nat) (rr cr:Nat→Nat) (L:Nat→Nat→Rat) (Pp:Nat→Nat),k≤n∧s=.int .i64 (k:Nat)∧c=.int .i64 (k:Nat)∧RW wr w.heap.size ga ca R n rr cr L∧Hid (Sx.Ech R n k L0 L Pp)∧Below w.heap.size w wr) (fun s _ _ => n - (intOf s).toNat)
   case atStart => exact ⟨0,rr,cr,L0,_,Nat.zero_le _,rfl,rfl,hW,HEch,hbr⟩
   case round =>
    clear hW HEch hbr;obtain ⟨k,rr,cr,L,Pp,hkn,rfl,rfl,hW,HE,hbr⟩:=hrel;obtain ⟨x5,-⟩:=RX.outAt hW (show 0 < R by omega)
    by_cases hlt:k < n
    ·obtain ⟨i0,hi0,hiR,hpiv⟩:=HE.out.pivot hlt Hk.out;have Hpiv:=hii hpiv;have hkR:k < R:=by omega
     clear hpiv;go_wp2_with fail;clear x5;obtain ⟨wq,rfl⟩:∃ wq:World,wq=wr:=⟨_,rfl⟩;go_loopw [7] (fun s wr => ∃ q:Nat,k≤q∧q≤i0∧s=.int .i64 (q:Nat)∧Below wq.heap.size wq wr) (fun s _ => R - (intOf s).toNat)
     case atStart => exact ⟨k,nl,hi0,rfl,br⟩
     case round =>
      obtain ⟨q,hq1,hq2,rfl,hbq⟩:=hrel;have hqR:q < R:=by omega
      have hW2:=hW.mono hbq;obtain ⟨x5,-⟩:=RX.outAt hW2 hqR;obtain ⟨ng1,ao1,n1,cap1,nh1,ap1,m1,caq1,y0,y1,y2,y3,-,-,-,-,V1⟩:=hW2.at hqR hlt;obtain ⟨_,_,_,_,_,_,_,_,e2,hv1,hv2⟩:=V1
      cases e2
      obtain ⟨sq,hs⟩:∃ sq,sgnI (L q k).num=sq:=⟨_,rfl⟩;have Hs:=hii hs;clear hs hv2;go_wp2_with fail;(with_reducible refine (rSign_eq _ (L q k).num sq wr Hs hv1).mono ?_);rintro e w2 ⟨rfl,hb⟩;have hbq:=bu hbq hb;clear hb hv1 y0 y1 y2 y3 x5 hW2
      by_cases hzq:sq=0
      ·have hqi:q ≠ i0:=fun e => Hpiv.out (by rw [← e]; exact num_zero.1 ((sgnI_zero _).1 (Hs.out.trans hzq)))
       go_wp2;go_roundw
       case rel => exact ⟨q + 1,by omega,by omega,by go_num,hbq⟩
       case measure => simp [intOf]; omega
      ·have Hqz:Hid (L q k ≠ 0):=hii fun e => hzq (by rw [← Hs.out]; exact (sgnI_zero _).2 (num_zero.2 e))
       have hW2:=hW.mono hbq;have hb2:=hbr.trans (hbq.mono hbr.size);clear Hs hq2 hbq hbr hW;have hsd1:decide (sq=0)=false:=decide_eq_false hzq;have hsd2:(sq == 0)=false:=by simpa using hzq
       go_upto_region 14 with fail;have hsd3:decide ((q:Int)=(R:Int))=false:=decide_eq_false (by omega);have hsd4:((q:Int) == (R:Int))=false:=by simpa using (show ¬ (q:Int)=(R:Int) by omega)
       have hsd5:decide (q=R)=false:=decide_eq_false (by omega)
       try simp only [hsd1]
       try simp only [hsd3]
       try simp only [hsd4]
       try simp only [hsd5]
       try simp only [hsd2]
       clear hsd1 hsd2 hsd3 hsd4 hsd5 hzq;refine rk14 (w0:=w) hb2 nl hW2 hkR hqR (by omega) ?_;clear hW2 hb2;rintro T w3 rr2 cr2 hW hbr;have HE1:Hid (Sx.Ech R n k L0 (fun t => L (sw k q t)) (fun t => Pp (sw k q t))):=hii (HE.out.perm (fun t ht => by unfold sw; rw [if_neg (by omega),if_neg (by omega)]) (fun t h1 h2 => by unfold sw; split <;> (try split) <;> omega) (fun i hi => ⟨sw k q i,sw_lt hkR hqR hi,sw_sw _ _ _⟩) (fun i _ j _ => rfl));obtain ⟨L1,hL1⟩:∃ L1:Nat→Nat→Rat,L1=fun t => L (sw k q t):=⟨_,rfl⟩
       rw [← hL1] at hW HE1;obtain ⟨P1,hP1⟩:∃ P1:Nat→Nat,P1=fun t => Pp (sw k q t):=⟨_,rfl⟩
       rw [← hP1] at HE1;have Hkk:Hid (L1 k k ≠ 0):=hii (by rw [hL1]; show L (sw k q k) k ≠ 0; rw [show sw k q k=q by unfold sw; rw [if_pos rfl]]; exact Hqz.out);clear hL1 hP1 HE Hqz Hpiv hi0 hiR hq1 hqR;obtain ⟨D,hD,hDz,hsz⟩:=HE1.out.size HM0.out;have HKb:Hid (∀ i,k≤i→i < R→∀ j,j < n→Kb 1 (L1 i j)):=hii fun i h1 h2 j hj => wh_kb hD (Nat.le_trans hDz (hK.out k (by omega))) (hsz i h1 h2 j hj) (hK.out (k + 1) (by omega))
       clear hD hDz hsz;obtain ⟨Lf,hLf⟩:∃ Lf:Nat→Nat→Nat→Rat,Lf=fun i t j => if k < t∧t < i then L1 t j - L1 t k / L1 k k * L1 k j else L1 t j:=⟨_,rfl⟩
       have HLf:=hii hLf;clear hLf;go_wp2_with fail;go_loopw [8] (fun s wr => ∃ i:Nat,k + 1≤i∧i≤R∧s=.int .i64 (i:Nat)∧RW wr w.heap.size ga ca R n rr2 cr2 (Lf i)∧Below w.heap.size w wr) (fun s _ => R - (intOf s).toNat)
       case atStart => exact ⟨k + 1,nl,by omega,by go_num,hW.congr (fun t _ j _ => by rw [HLf.out]; dsimp only; rw [if_neg (by omega)]),hbr⟩
       case round =>
        clear hW hbr;obtain ⟨i,hi1,hi2,rfl,hW,hbr⟩:=hrel
        by_cases hiR:i < R
        ·have Hii:Hid (∀ j,Lf i i j=L1 i j):=hii fun j => by rw [HLf.out]; dsimp only; rw [if_neg (by omega)]
         have Hik:Hid (∀ j,Lf i k j=L1 k j):=hii fun j => by rw [HLf.out]; dsimp only; rw [if_neg (by omega)]
         obtain ⟨x5,-⟩:=RX.outAt hW hiR;obtain ⟨ng1,ao1,n1,cap1,nh1,ap1,m1,caq1,y0,y1,y2,y3,-,-,-,-,V1⟩:=hW.at hiR hlt;rw [Hii.out] at V1;obtain ⟨_,_,_,_,_,_,_,_,e2,hv1,hv2⟩:=V1
         cases e2
         obtain ⟨s,hs⟩:∃ s,sgnI (L1 i k).num=s:=⟨_,rfl⟩;have Hs:=hii hs;clear hs hv2;go_wp2_with fail;(with_reducible refine (rSign_eq _ (L1 i k).num s wr Hs hv1).mono ?_);rintro e w4 ⟨rfl,hb⟩;have hW:=hW.mono hb;have hbr:=bu hbr hb;clear hb hv1 y0 y1 y2 y3 x5
         by_cases hz:s=0
         ·have Hz:Hid (L1 i k=0):=hii (num_zero.1 ((sgnI_zero _).1 (Hs.out.trans hz)));go_wp2;go_roundw
          case rel => exact ⟨i + 1,by omega,by omega,by go_num,hW.congr (fun t _ j _ => by
           rw [HLf.out]
           dsimp only
           by_cases e:t=i
           ·subst e; rw [if_neg (by omega),if_pos (by omega),Hz.out,Rat.div_def,Rat.zero_mul,Rat.zero_mul]; exact zsz _
           ·by_cases e2:k < t∧t < i
            ·rw [if_pos e2,if_pos (by omega)]
            ·rw [if_neg e2,if_neg (by omega)]),hbr⟩
          case measure => simp [intOf]; omega
         ·have hEr:=hE.mono hbr;have HNe:Hid ((Lf i k k).num ≠ 0):=hii fun e => Hkk.out (by rw [← Hik.out k]; exact num_zero.1 e)
          have HDS:Hid (DivS (Lf i i k) (Lf i k k)):=hii (by rw [Hii.out,Hik.out]; exact (HKb.out i (by omega) hiR k hlt).divS (HKb.out k nl hkR k hlt) (by decide));obtain ⟨f,hf⟩:∃ f:Rat,f=L1 i k / L1 k k:=⟨_,rfl⟩;have Hf:=hii hf;have Hfq:Hid (f=Lf i i k / Lf i k k):=hii (by rw [Hii.out,Hik.out]; exact hf);have HfK:Hid (Kb 2 f):=hii (by rw [hf]; exact (HKb.out i (by omega) hiR k hlt).div (HKb.out k nl hkR k hlt) (fun e => Hkk.out (num_zero.1 e)));clear hf Hs;have Hlr:Hid (∀ t,t < R→rr2 t < w4.heap.size):=hii fun t ht => (hW.lowR ht).2
          go_upto_region 19 with fail;refine rk19 hW hiR hkR hlt (by omega) (by omega) hEr HNe HDS Hfq ?_;rintro T2 w5 g9 ng5 ao5 n5 cap5 nh5 ap5 m5 caq5 hge9 r9 V5 hb;have hW:=hW.mono hb;have hbr:=bu hbr hb;have Hgn:Hid (∀ t,t < R→g9 ≠ rr2 t):=hii fun t ht e => by have:=Hlr.out t ht; omega
          have Hlow:Hid (∀ c,c < k→L1 i c=0∧L1 k c=0):=hii fun c hc => ⟨HE1.out.zero i (by omega) hiR c hc,HE1.out.zero k nl hkR c hc⟩
          obtain ⟨Lj,hLj⟩:∃ Lj:Nat→Nat→Nat→Rat,Lj=fun j t c => if t=i∧c < j then L1 i c - f * L1 k c else Lf i t c:=⟨_,rfl⟩
          have HLj:=hii hLj;clear hb hEr hLj hge9 Hlr HNe HDS Hfq;go_wp2_with fail;go_loopw [11] (fun s wr => ∃ j:Nat,k≤j∧j≤n∧s=.int .i64 (j:Nat)∧RW wr w.heap.size ga ca R n rr2 cr2 (Lj j)∧Row wr g9 38 [.bool ng5,.slice ao5 n5 cap5,.bool nh5,.slice ap5 m5 caq5]∧RatV wr (.agg #[.bool ng5,.slice ao5 n5 cap5,.bool nh5,.slice ap5 m5 caq5]) f∧Below w.heap.size w wr) (fun s _ => n - (intOf s).toNat)
          case atStart =>
           refine ⟨k,nl,hkn,rfl,hW.congr (fun t _ c _ => ?_),r9,V5,hbr⟩;rw [HLj.out]
           dsimp only
           by_cases e:t=i∧c < k
           ·rw [if_pos e,e.1,Hii.out,(Hlow.out c e.2).1,(Hlow.out c e.2).2]; exact zsm f
           ·rw [if_neg e]
          case round =>
           clear hW r9 V5 hbr;obtain ⟨j,hj1,hj2,rfl,hW,r9,V5,hbr⟩:=hrel;obtain ⟨x5,-⟩:=RX.outAt hW hiR
           by_cases hjn:j < n
           ·have Hjk:Hid (Lj j k j=L1 k j):=hii (by rw [HLj.out]; dsimp only; rw [if_neg (by omega),Hik.out]);have Hji:Hid (Lj j i j=L1 i j):=hii (by rw [HLj.out]; dsimp only; rw [if_neg (by omega),Hii.out]);have hEr:=hE.mono hbr;have HMS:Hid (MulS f (Lj j k j)):=hii (by rw [Hjk.out]; exact HfK.out.mulS (HKb.out k nl hkR j hjn) (by decide));obtain ⟨x,hx⟩:∃ x:Rat,x=f * Lj j k j:=⟨_,rfl⟩;have Hx:=hii hx;have HSS:Hid (SubS (Lj j i j) x):=hii (by rw [Hji.out,hx,Hjk.out]; exact (HKb.out i (by omega) hiR j hjn).subS (HfK.out.mul (HKb.out k nl hkR j hjn)) (by decide));clear hx;go_upto_region 23 with fail;refine rk23 hW hkR hjn (by omega) (by omega) r9 V5 hEr HMS Hx ?_;rintro T3 w6 g12 ng6 ao6 n6 cap6 nh6 ap6 m6 caq6 hge12 r12 V6 hb;have hW:=hW.mono hb;have r9:=r9.below hb;have V5:=V5.mono hb;have hEr:=hEr.mono hb;have hbr:=bu hbr hb;clear hb x5 HMS hge12;go_upto_region 24 with fail;refine rk24 hW hiR hjn (by omega) (by omega) r12 V6 hEr HSS ?_;rintro T4 w7 hW2 hkp;have r9:=r9.mono hkp (fun e => Hgn.out i hiR e);have V5:=V5.keptU hkp (hW.row i hiR).noB;have hbr:=hbr.trans (hkp.below (fun b e => by subst e; exact (hW.lowR hiR).1) hbr.size);clear hW r12 V6 hEr HSS hkp;go_wp2;go_roundw
            case rel =>
             refine ⟨j + 1,by omega,by omega,by go_num,hW2.congr (fun t _ c _ => ?_),r9,V5,hbr⟩;unfold up
             by_cases e:t=i∧c=j
             ·rw [if_pos e,Hji.out,Hx.out,Hjk.out,HLj.out]
              dsimp only
              rw [if_pos (by omega),e.2]
             ·rw [if_neg e,HLj.out]
              dsimp only
              by_cases e2:t=i∧c < j
              ·rw [if_pos e2,if_pos (by omega)]
              ·rw [if_neg e2,if_neg (by omega)]
            case measure => simp [intOf]; omega
           ·have hW2:=hW.congr (M:=Lf (i + 1)) (fun t _ c hc => by
             rw [HLj.out,HLf.out]
             dsimp only
             by_cases e:t=i
             ·subst e; rw [if_pos ⟨rfl,by omega⟩,if_pos (by omega),Hf.out]
             ·rw [if_neg (fun h => e h.1)]
              by_cases e2:k < t∧t < i
              ·rw [if_pos e2,if_pos (by omega)]
              ·rw [if_neg e2,if_neg (by omega)])
            clear hW r9 V5;go_wp2;go_roundw
            case rel => exact ⟨i + 1,by omega,by omega,by go_num,hW2,hbr⟩
            case measure => simp [intOf]; omega
        ·have hie:i=R:=by omega
         rw [hie] at hW;have HE2:Hid (Sx.Ech R n (k + 1) L0 (Lf R) P1):=hii (HE1.out.step hkR hlt Hkk.out (fun t h1 h2 j _ => by rw [HLf.out]; dsimp only; rw [if_pos ⟨h1,h2⟩]) (fun t h1 j _ => by rw [HLf.out]; dsimp only; rw [if_neg (by omega)]));clear hie hi1 hi2;go_wp2;go_roundw
         case rel => exact ⟨k + 1,rr2,cr2,Lf R,P1,by omega,by go_num,by go_num,hW,HE2,hbr⟩
         case measure => simp [intOf]; omega
    ·have hke:k=n:=by omega
     by_cases hkR:k < R
     ·go_wp2;go_ret;exact ⟨by first | rfl | rw [hke] | simp [hke],hbr⟩
     ·clear x5;go_wp2;go_ret;exact ⟨by first | rfl | rw [hke] | simp [hke],hbr⟩
end Go.Proofs.YtileholjbdhmjaaGreatDoor
