/- Lifted code: lowering it gives the code again, reading its form gives it again (plain). Conditions: words are words. -/
import Derived.Test.YtgkgihnpjgbmhaaGreatDoorApplyL
set_option linter.unusedSimpArgs false
set_option linter.unusedVariables false
namespace Go.Proofs.YtgkgihnpjgbmhaaGreatDoor
open Go Go.RowKit Go.Inl
theorem num_word {w k : Int} (h0 : 0 ≤ w) (h1 : w < 4294967296) (hk0 : 0 ≤ k) (hk : k < 2 ^ fieldM (opOf w)) :
 opOf (numP w (opOf w) k)=opOf w∧idxOf (numP w (opOf w) k)=k∧(fieldM (opOf w)=16→numP w (opOf w) k / 65536 % 256=w / 65536 % 256)∧0≤numP w (opOf w) k∧numP w (opOf w) k < 4294967296:=by
 have hf:fieldM (opOf w)=24∨fieldM (opOf w)=16:=by unfold fieldM; split <;> simp
 have e1:opOf (numP w (opOf w) k)=opOf w:=by
  unfold numP;rcases hf with hf | hf <;> rw[hf]at hk ⊢ <;> unfold opOf <;> omega
 refine⟨e1,?_,?_,?_⟩
 · unfold idxOf
   rw[e1];unfold numP;rcases hf with hf | hf <;> rw[hf]at hk ⊢ <;> omega
 · intro hf
   unfold numP;rw[hf]at hk ⊢; omega
 · unfold numP
   rcases hf with hf | hf <;> rw[hf]at hk ⊢ <;> omega
theorem dec_link {w at_ len : Int} (h0 : 0 ≤ w) (h1 : w < 4294967296) (h : linkedP (decI w at_) len = true) :
 (5≤opOf w∧opOf w≤8)∧decI w at_=⟨opOf w,if 7≤opOf w then w / 65536 % 256 else 0,0,0,(decI w at_).n⟩∧0≤(decI w at_).n∧(decI w at_).n < len:=by
 unfold linkedP at h;simp only[uC,ua]at h;obtain⟨⟨h5,h8⟩,hn0,hn1⟩:=h;have e0:octP w 0=opOf w:=oct0 w h0 h1;by_cases hop:octP w 0=0∨8 < octP w 0
 · rw[jt hop]at h5; exact absurd h5 (by show ¬(5:Int)≤0; decide)
 · by_cases hb : badR w (octP w 0) = true
   · rw[yp hop hb]at h5; exact absurd h5 (by show ¬(5:Int)≤0; decide)
   · have e : decI w at_ = ⟨octP w 0, if 0 < regsP (octP w 0) then octP w 1 else 0, if 1 < regsP (octP w 0) then octP w 2 else 0, if 2 < regsP (octP w 0) then octP w 3 else 0,
      if targP (octP w 0)=true then at_+4*lowI w (octP w 0) else lowI w (octP w 0)⟩:=by unfold decI; rw[xP hop,xP hb]
     have hopE:(decI w at_).op=opOf w:=by rw[e]; exact e0
     rw[hopE]at h5 h8;refine⟨⟨h5,h8⟩,?_,hn0,hn1⟩;conv=>lhs; rw[e]
     conv=>rhs; rw[e]
     rw[e0,oct1];have e4:opOf w=5∨opOf w=6∨opOf w=7∨opOf w=8:=by omega
     rcases e4 with e4 | e4 | e4 | e4 <;> rw[e4] <;> simp[regsP]
theorem zR {α : Type} (g : Nat → α) : ∀ (l : List Nat) (acc : List α) (i : Nat), i < acc.length → (l.foldl (fun acc i => acc.set i (g i)) acc)[i]? = if i ∈ l then some (g i) else acc[i]?
 | [],acc,i,h=>by simp
 | j::l,acc,i,h=>by
   rw[List.foldl_cons,zR g l (acc.set j (g j)) i (by rw[ud]; exact h)];by_cases hi:i∈l
   · rw[xS hi,xS (List.mem_cons_of_mem _ hi)]
   · rw [xP hi]
     by_cases hj:j=i
     · subst hj; rw[xS (List.mem_cons_self ..),List.getElem?_set_self h]
     · rw[xP (by rw[xV]; rintro(h' | h'); exact hj h'.symm; exact hi h'),List.getElem?_set_ne hj]
theorem liftW_get {ws ls:List Int}{i:Nat}(h:i < ws.length):(liftW ws ls (lks ws))[i]? = some (if lnk ws i=true then numAt ws ls i else ws.getD i 0):=by
 unfold liftW;rw[zR (fun i=>numAt ws ls i) (lks ws) ws i h];by_cases hl:lnk ws i=true
 · rw[xS (kq.2 ⟨h,hl⟩),xS hl]
 · rw[xP (fun hm=>hl (kq.1 hm).2),xP hl,jN h]
theorem liftM_get {ws:List Int}{i:Nat}(h:i < ws.length):(Inl.liftM ws.length (lks ws))[i]? = some (lnk ws i):=by
 unfold Inl.liftM;rw[zR (fun _=>true) (lks ws) _ i (by rw[uX]; exact h)];by_cases hl:lnk ws i=true
 · rw[xS (kq.2 ⟨h,hl⟩),hl]
 · rw [xP (fun hm => hl (kq.1 hm).2), List.getElem?_replicate, xS h]
   simp only[Bool.not_eq_true]at hl;rw[hl]
theorem unnum_lift {ws:List Int}(hw:Wrds ws)(hn:ws.length≤16384){i:Nat}(hi:i < ws.length):unnumP (liftP ws) i=some (ws.getD i 0):=by
 have hm:(liftP ws).marks.getD i false=lnk ws i:=by rw[xT]; show((Inl.liftM ws.length (lks ws))[i]?).getD false=_; rw[liftM_get hi]; rfl
 have hwd:(liftP ws).words.getD i 0=if lnk ws i=true then numAt ws (labelsP ws) i else ws.getD i 0:=by rw[xT]; show((liftW ws (labelsP ws) (lks ws))[i]?).getD 0=_; rw[liftW_get hi]; rfl
 have hb:=zh hw i;unfold unnumP;rw[hm,hwd];by_cases hl:lnk ws i=true
 · rw [xS hl, xS hl]
   obtain⟨⟨h5,h8⟩,hx,hn0,hn1⟩:=dec_link hb.1 hb.2 hl;have hopE:(instAt ws i).op=opOf (ws.getD i 0):=by
    have:=congrArg InstL.op hx;exact this
   have hmem:(instAt ws i).n∈labelsP ws:=jY.2 (mem_tgts (kq.2 ⟨hi,hl⟩));have hia:=vv hmem;have hil:=(xX.1 hia).1;have hll:=jv ws;obtain⟨k,hk⟩:∃k,idxP (labelsP ws) (instAt ws i).n=k:=⟨_,rfl⟩
   rw[hk]at hia hil;have hf:fieldM (opOf (ws.getD i 0))=24∨fieldM (opOf (ws.getD i 0))=16:=by unfold fieldM; split <;> simp
   have hk2:(k:Int) < 2 ^ fieldM (opOf (ws.getD i 0)):=by rcases hf with h | h <;> rw[h] <;> omega
   obtain⟨g1,g2,g3,g4,g5⟩:=num_word hb.1 hb.2 (by omega) hk2;have hna:numAt ws (labelsP ws) i=numP (ws.getD i 0) (opOf (ws.getD i 0)) k:=by unfold numAt; rw[hopE,hk]
   rw[hna];have hbn:badN (liftP ws) (numP (ws.getD i 0) (opOf (ws.getD i 0)) k)=false:=badN_f (by rw[g1]; omega) (by rw[g1]; omega) (by rw[g2]; show ¬((labelsP ws).length:Int)≤k; omega);rw[vh hbn];have hin:instOf (liftP ws) (numP (ws.getD i 0) (opOf (ws.getD i 0)) k)=instAt ws i:=by
    have e1:instAt ws i=⟨opOf (ws.getD i 0),if 7≤opOf (ws.getD i 0) then ws.getD i 0 / 65536 % 256 else 0,0,0,(instAt ws i).n⟩:=hx;rw[e1];unfold instOf;rw[g1,g2];have e2:(liftP ws).labels.getD (k:Int).toNat 0=(instAt ws i).n:=by rw[Int.toNat_natCast,xT]; show((labelsP ws)[k]?).getD 0=_; rw[hia]; rfl
    rw[e2];by_cases h7:7≤opOf (ws.getD i 0)
    · rw[xS h7,xS h7,g3 (by unfold fieldM; rw[xP (by omega)])]
    · rw[xP h7,xP h7]
   rw[hin];exact encI_decI hb.1 hb.2
 · rw[xP hl,xP hl]
theorem lowW_lift {ws:List Int}(hw:Wrds ws)(hn:ws.length≤16384):lowW (liftP ws)=ws:=by
 have hlen:(liftP ws).words.length=ws.length:=jj _ _ _;apply List.ext_getElem?
 intro i;by_cases hi:i < ws.length
 · rw[lowW_at (by rw[hlen]; exact hi),unnum_lift hw hn hi,jN hi]; rfl
 · rw[List.getElem?_eq_none (by rw[jr,hlen]; omega),List.getElem?_eq_none (by omega)]
theorem lower_lift {ws:List Int}(hw:Wrds ws)(hn:ws.length≤16384):lowR (liftP ws)=(bytesP ws,0):=by
 have hlen:(liftP ws).words.length=ws.length:=jj _ _ _;have hlm:(liftP ws).marks.length=ws.length:=jp _ _;have hb:lowBad (liftP ws)=false:=lowBad_f (fun i hi=>by rw[unnum_lift hw hn (by rw[← hlen]; exact hi)]; rfl);have:=yU (x:=liftP ws) (by rw[hlen,hlm]; omega) hb (by rw[lowW_lift hw hn]; exact yV.2 rfl);rw[this,lowW_lift hw hn]
/-! ### The form -/
theorem flat2_get {g : Nat → List Int} (hg : ∀ k, (g k).length = 2) : ∀ (n k j : Nat), k < n → j < 2 → ((List.range n).flatMap g)[2 * k + j]? = (g k)[j]?
 | 0,k,j,h,_=>by omega
 | n+1,k,j,h,hj=>by
   have hl:((List.range n).flatMap g).length=2*n:=by
    clear h hj;induction n with
    | zero=>rfl
    | succ n ih=>rw[List.range_succ,List.flatMap_append,xN,ih]; simp[hg]; omega
   rw[List.range_succ,List.flatMap_append];by_cases hk:k < n
   · rw [ux (by rw [hl]; omega)]
     exact flat2_get hg n k j hk hj
   · have : k = n := by omega
     subst this;rw[uB (by rw[hl]; omega),hl];simp
theorem form_head (x:LiftL)(h0:x.words.length≤65535)(h1:x.labels.length≤65535):num2 (formP x) 0=x.words.length∧num2 (formP x) 2=x.labels.length:=by
 have e:∀r:List Int,num2 (headF x++r) 0=(x.words.length:Int) / 256 % 256*256+(x.words.length:Int) % 256∧num2 (headF x++r) 2=(x.labels.length:Int) / 256 % 256*256+(x.labels.length:Int) % 256:=fun r=>⟨rfl,rfl⟩
 have e2:=e (formL x.labels x.labels.length++(marksB x.marks ((x.marks.length+7) / 8)++bytesP x.words));have e3:headF x++(formL x.labels x.labels.length++(marksB x.marks ((x.marks.length+7) / 8)++bytesP x.words))=formP x:=by unfold formP; simp only[uh]
 rw[e3]at e2;rw[e2.1,e2.2]; omega
theorem form_lab (x:LiftL){k j:Nat}(hk:k < x.labels.length)(hj:j < 2):(formP x).getD (4+2*k+j) 0=(dltP x.labels k).getD j 0:=by
 have e3:formP x=headF x++(formL x.labels x.labels.length++(marksB x.marks ((x.marks.length+7) / 8)++bytesP x.words)):=by unfold formP; simp only[uh]
 rw[e3,xT,uB (by rw[zq]; omega),zq,show 4+2*k+j - 4=2*k+j by omega,ux (by rw[yF]; omega)];unfold formL;rw[flat2_get (fun _=>rfl) _ k j hk hj,xT]
theorem form_mark (x:LiftL){k:Nat}(hk:k < (x.marks.length+7) / 8):(formP x).getD (4+2*x.labels.length+k) 0=bitsU (chunk x.marks k) (chunk x.marks k).length:=by
 have e3:formP x=(headF x++formL x.labels x.labels.length)++(marksB x.marks ((x.marks.length+7) / 8)++bytesP x.words):=by unfold formP; simp only[uh]
 have hl:(headF x++formL x.labels x.labels.length).length=4+2*x.labels.length:=by rw[xN,zq,yF]
 rw[e3,xT,uB (by rw[hl]; omega),hl,show 4+2*x.labels.length+k - (4+2*x.labels.length)=k by omega,ux (by rw[yT]; exact hk)];unfold marksB;rw[uW,List.getElem?_range hk]; rfl
theorem form_words (x:LiftL):(formP x).drop (4+2*x.labels.length+(x.marks.length+7) / 8)=bytesP x.words:=by
 have hl:(headF x++formL x.labels x.labels.length++marksB x.marks ((x.marks.length+7) / 8)).length=4+2*x.labels.length+(x.marks.length+7) / 8:=by rw[xN,xN,zq,yF,yT]
 unfold formP;rw[← hl,List.drop_left]
theorem bits_test (c : List Bool) : ∀ (n j : Nat), j < n → (bitsU c n / 2 ^ j % 2 = 1 ↔ c.getD j false = true)
 | 0,j,h=>by omega
 | n+1,j,h=>by
   have hb:=bitsU_b c n;by_cases hj:j < n
   · have ih := bits_test c n j hj
     have e:(2:Int) ^ n=2 ^ j*2*2 ^ (n - j - 1):=by
      rw[← Int.pow_succ,← Int.pow_add]; congr 1; omega
     show(bitsU c n+(if c.getD n false=true then 2 ^ n else 0)) / 2 ^ j % 2=1↔_
     rw[← ih];have hp:(0:Int) < 2 ^ j:=by have:=Nat.one_le_two_pow (n:=j); exact_mod_cast this
     split
     · rw[e,show(2:Int) ^ j*2*2 ^ (n - j - 1)=2 ^ j*(2*2 ^ (n - j - 1)) by rw[Int.mul_assoc],Int.add_mul_ediv_left _ _ (by omega),Int.add_mul_emod_self_left]
     · rw[Int.add_zero]
   · have : j = n := by omega
     subst this;show(bitsU c j+(if c.getD j false=true then 2 ^ j else 0)) / 2 ^ j % 2=1↔_
     have hp:(0:Int) < 2 ^ j:=by omega
     split
     · rename_i hc
       have:(bitsU c j+2 ^ j) / 2 ^ j=1:=by
        rw[show bitsU c j+2 ^ j=bitsU c j+1*2 ^ j by omega,Int.add_mul_ediv_right _ _ (by omega),Int.ediv_eq_zero_of_lt hb.1 hb.2]; rfl
       rw[this];exact⟨fun _=>hc,fun _=>rfl⟩
     · rename_i hc
       rw[Int.add_zero,Int.ediv_eq_zero_of_lt hb.1 hb.2];exact⟨fun h=>by simp at h,fun h=>absurd h hc⟩
theorem chunk_getD {m:List Bool}{i:Nat}(hi:i < m.length):(chunk m (i / 8)).getD (i % 8) false=m.getD i false:=by
 unfold chunk;rw[xT,List.getElem?_drop,List.getElem?_take,xT];rw[xS (by split <;> omega),show 8*(i / 8)+i % 8=i by omega]
structure FormOk (x : LiftL) : Prop where
 n:x.words.length≤16384
 m:x.marks.length=x.words.length
 l:x.labels.length≤65535
 d:∀k,k < x.labels.length→0≤x.labels.getD k 0 - lastL x.labels k∧(x.labels.getD k 0 - lastL x.labels k) % 4=0∧x.labels.getD k 0 - lastL x.labels k≤262140
theorem vx {x:LiftL}(h:FormOk x):nW (formP x)=x.words.length∧nL (formP x)=x.labels.length:=by
 have h0:=h.n;have:=form_head x (by omega) h.l;unfold nW nL;rw[this.1,this.2];exact⟨Int.toNat_natCast _,Int.toNat_natCast _⟩
theorem form_atM {x:LiftL}(h:FormOk x):atM (formP x)=4+2*x.labels.length:=by unfold atM; rw[(vx h).2]
theorem form_atW {x:LiftL}(h:FormOk x):atW (formP x)=4+2*x.labels.length+(x.marks.length+7) / 8:=by unfold atW; rw[form_atM h,(vx h).1,h.m]
theorem form_num {x:LiftL}(h:FormOk x){k:Nat}(hk:k < x.labels.length):4*num2 (formP x) (4+2*k)=x.labels.getD k 0 - lastL x.labels k:=by
 obtain⟨h1,h2,h3⟩:=h.d k hk;have e0:=form_lab x (j:=0) hk (by decide);have e1:=form_lab x (j:=1) hk (by decide);unfold num2;rw[show 4+2*k+0=4+2*k from rfl]at e0;rw[e0,e1];obtain⟨d,hd⟩:∃d,x.labels.getD k 0 - lastL x.labels k=d:=⟨_,rfl⟩
 rw[hd]at h1 h2 h3 ⊢;have e2:dltP x.labels k=[d / 4 / 256 % 256,d / 4 % 256]:=by unfold dltP twoP; rw[hd,Int.tdiv_eq_ediv_of_nonneg h1]
 rw[e2];show 4*(d / 4 / 256 % 256*256+d / 4 % 256)=d
 omega
theorem form_lastU {x : LiftL} (h : FormOk x) : ∀ k, k ≤ x.labels.length → lastU (formP x) k = lastL x.labels k
 | 0,_=>rfl
 | k+1,hk=>by
   have ih:=form_lastU h k (by omega);have:=form_num h (k:=k) (by omega);show lastU (formP x) k+4*num2 (formP x) (4+2*k)=_
   rw[ih,this,yW]; omega
theorem read_labels {x:LiftL}(h:FormOk x):labsR (formP x) x.labels.length=x.labels:=by
 apply List.ext_getElem?
 intro i;by_cases hi:i < x.labels.length
 · unfold labsR
   rw[uW,List.getElem?_range hi,jN hi];show some (lastU (formP x) (i+1))=_
   rw[form_lastU h (i+1) (by omega),yW]
 · rw[List.getElem?_eq_none (by rw[yD]; omega),List.getElem?_eq_none (by omega)]
theorem read_marks {x:LiftL}(h:FormOk x):marksR (formP x) (4+2*x.labels.length) x.marks.length=x.marks:=by
 apply List.ext_getElem?
 intro i;by_cases hi:i < x.marks.length
 · unfold marksR
   rw[uW,List.getElem?_range hi,xI hi];show some (markR (formP x) (4+2*x.labels.length) i)=_
   congr 1
   unfold markR;rw[form_mark x (by omega)];have hl:i % 8 < (chunk x.marks (i / 8)).length:=by rw[vX]; split <;> omega
   have h1:=bits_test (chunk x.marks (i / 8)) _ _ hl;rw[chunk_getD hi]at h1;have h2:x.marks.getD i false=x.marks[i]:=by rw[xT,xI hi]; rfl
   rw[h2]at h1;rw[Bool.eq_iff_iff,decide_eq_true_iff]; exact h1
 · rw[List.getElem?_eq_none (by rw[zH]; omega),List.getElem?_eq_none (by omega)]
theorem read_form {x:LiftL}(h:FormOk x)(hw:Wrds x.words):readX (formP x)=x:=by
 unfold readX;rw[form_atW h,form_atM h,(vx h).1,(vx h).2,form_words,kF hw,read_labels h,← h.m,read_marks h]
theorem formB_good {x:LiftL}(h:FormOk x):badF (formP x)=false:=by
 have hl:=vV x;unfold badF;rw[form_atW h,(vx h).1,uw (by omega),uH (by omega)]; rfl
theorem readR_form {x:LiftL}(h:FormOk x)(hw:Wrds x.words)(hl:(lowR x).2=0):readR (formP x)=(x,0):=by
 have e:=read_form h hw;have:=readR_yes (b:=formP x) (formB_good h) (by rw[e]; exact⟨hl,rfl⟩);rw[this,e]
theorem sorted_last {l:List Int}(h:l.Pairwise (· < ·))(h0:∀n∈l,0≤n){k:Nat}(hk:k < l.length):0≤l.getD k 0 - lastL l k∧0≤lastL l k:=by
 have hkm:l.getD k 0=l[k]:=by rw[xT,xI hk]; rfl
 have hk0:=h0 l[k] (List.getElem_mem hk);unfold lastL;split
 · rw[hkm]; omega
 · have hk1 : k - 1 < l.length := by omega
   have e:l.getD (k - 1) 0=l[k - 1]:=by rw[xT,xI hk1]; rfl
   have:=List.pairwise_iff_getElem.1 h (k - 1) k hk1 hk (by omega);have:=h0 l[k - 1] (List.getElem_mem hk1);rw[hkm,e]; omega
theorem dec_n4 {w len:Int}{i:Nat}(h0:0≤w)(h1:w < 4294967296)(h:linkedP (decI w (4*(i:Int))) len=true):(decI w (4*(i:Int))).n % 4=0:=by
 have h2:=h;unfold linkedP at h2;simp only[uC,ua]at h2;obtain⟨⟨h5,h8⟩,_,_⟩:=h2;have e0:octP w 0=opOf w:=oct0 w h0 h1;by_cases hop:octP w 0=0∨8 < octP w 0
 · rw[jt hop]at h5; exact absurd h5 (by show ¬(5:Int)≤0; decide)
 · by_cases hb : badR w (octP w 0) = true
   · rw[yp hop hb]at h5; exact absurd h5 (by show ¬(5:Int)≤0; decide)
   · have e : decI w (4 * (i : Int)) = ⟨octP w 0, if 0 < regsP (octP w 0) then octP w 1 else 0, if 1 < regsP (octP w 0) then octP w 2 else 0, if 2 < regsP (octP w 0) then octP w 3 else 0,
      if targP (octP w 0)=true then 4*(i:Int)+4*lowI w (octP w 0) else lowI w (octP w 0)⟩:=by unfold decI; rw[xP hop,xP hb]
     rw[e]at h5 h8 ⊢;dsimp only at h5 h8 ⊢;rw[xS (by unfold targP; simp; omega)];omega
theorem liftP_ok {ws:List Int}(hw:Wrds ws)(hn:ws.length≤16384):FormOk (liftP ws):=by
 have hlen:(liftP ws).words.length=ws.length:=jj _ _ _;have hlm:(liftP ws).marks.length=ws.length:=jp _ _;have hll:=jv ws;have hlb:=zL (ws:=ws) (by omega);refine⟨by omega,by omega,by show(labelsP ws).length≤65535; omega,fun k hk=>?_⟩;have hk':k < (labelsP ws).length:=hk;obtain⟨s1,s2⟩:=sorted_last (kP ws) (fun n hn'=>(hlb n hn').1) hk';have hmem:∀j,j < (labelsP ws).length→(labelsP ws).getD j 0 % 4=0∧0≤(labelsP ws).getD j 0∧(labelsP ws).getD j 0 < 65536:=by
  intro j hj;have e:(labelsP ws).getD j 0=(labelsP ws)[j]:=by rw[xT,xI hj]; rfl
  have hm:=List.getElem_mem hj;have h1:=hlb _ hm;obtain⟨i,hi,hi2⟩:=Qu.1 (jY.1 hm);have hb:=zh hw i;have h4:=dec_n4 hb.1 hb.2 (kq.1 hi).2;rw[e,← hi2];exact⟨h4,by rw[hi2]; exact h1.1,by rw[hi2]; omega⟩
 obtain⟨m1,m2,m3⟩:=hmem k hk';have hlast:lastL (labelsP ws) k % 4=0:=by
  unfold lastL;split
  · rfl
  · exact(hmem (k - 1) (by omega)).1
 show 0≤(labelsP ws).getD k 0 - lastL (labelsP ws) k∧((labelsP ws).getD k 0 - lastL (labelsP ws) k) % 4=0∧(labelsP ws).getD k 0 - lastL (labelsP ws) k≤262140
 omega
theorem readR_lift {ws:List Int}(hw:Wrds ws)(hn:ws.length≤16384):readR (formP (liftP ws))=(liftP ws,0) :=
 readR_form (liftP_ok hw hn) (zK hw (by omega)) (by rw[lower_lift hw hn])
end Go.Proofs.YtgkgihnpjgbmhaaGreatDoor
