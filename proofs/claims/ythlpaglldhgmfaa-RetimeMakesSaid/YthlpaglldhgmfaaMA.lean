/- Chapter 6 in plain numbers: maps through knots over the rationals. Chapter 6: what the program reckons is exact: steps, slopes, bends, own knots. Chapter 6: a map that was made: its numbers, and what it does. Chapter 6: what a made map does to a time. -/
import Derived.Test.YthlpaglldhgmfaaM4
namespace Go.Proofs.Ythlpaglldhgmfaa.PL
set_option linter.unusedVariables false
set_option linter.unusedSimpArgs false
def ev (s c:Rat):List (Rat × Rat) → Rat → Rat
 | [],t=>c+s*t
 | (x,s') :: l,t=>if t<x then c+s*t else ev s' (c+(s - s')*x) l t

def Proper (a:Rat) (s:Rat):List (Rat × Rat) → Prop
 | []=>True
 | (x,s') :: l=>a<x∧s'≠s∧Proper x s' l

theorem ev_line {s c a:Rat} {l:List (Rat × Rat)} (h:Proper a s l):∃ d,0<d∧∀ t,t<a+d → ev s c l t=c+s*t:=by
 cases l with
 | nil=>exact ⟨1,by grind,fun t _=>rfl⟩
 | cons p l =>
  obtain ⟨x,s'⟩:=p
  refine ⟨x - a,by have:=h.1;grind,fun t ht=>?_⟩
  simp only [ev]
  rw [if_pos (by grind)]

theorem line_eq {s c s' c' a d:Rat} (hd:0<d) (h:∀ t,a≤t → t<a+d → c+s*t=c'+s'*t):s=s'∧c=c':=by
 have h1:=h a (by grind) (by grind)
 have h2:=h (a+d / 2) (by grind) (by grind)
 have h3:(s - s')*d=0:=by grind
 have:s=s':=by
  rcases Rat.mul_eq_zero.mp h3 with h|h<;>grind
 subst this
 exact ⟨rfl,by grind⟩

theorem ev_unique (l:List (Rat × Rat)):∀ (l':List (Rat × Rat)) (a s c s' c':Rat),Proper a s l → Proper a s' l' →
  (∀ t,a≤t → ev s c l t=ev s' c' l' t) → s=s'∧c=c'∧l=l':=by
 induction l with
 | nil =>
  intro l' a s c s' c' hp hp' h
  obtain ⟨d,hd,h1⟩:=ev_line (c:=c') hp'
  obtain ⟨rfl,rfl⟩:=line_eq (a:=a) (s:=s) (c:=c) (s':=s') (c':=c') hd (fun t ha ht=>by rw [← h1 t ht,← h t ha];rfl)
  refine ⟨rfl,rfl,?_⟩
  cases l' with
  | nil=>rfl
  | cons p l' =>
   exfalso
   obtain ⟨x,s''⟩:=p
   obtain ⟨h2,h3,h4⟩:=hp'
   obtain ⟨d',hd',h5⟩:=ev_line (c:=c+(s - s'')*x) h4
   have:=line_eq (a:=x) (s:=s) (c:=c) (s':=s'') (c':=c+(s - s'')*x) hd' (fun t ha ht=>by
    rw [← h5 t ht]
    have:=h t (by grind)
    simp only [ev] at this
    rw [if_neg (by grind)] at this
    exact this)
   grind
 | cons p l ih =>
  intro l' a s c s' c' hp hp' h
  obtain ⟨d1,hd1,h1⟩:=ev_line (c:=c) hp
  obtain ⟨d2,hd2,h2⟩:=ev_line (c:=c') hp'
  have hlt:∃ d,0<d∧d≤d1∧d≤d2:=by
   by_cases e:d1≤d2
   ·exact ⟨d1,hd1,by grind,e⟩
   ·exact ⟨d2,hd2,by grind,by grind⟩
  obtain ⟨d,hd,hda,hdb⟩:=hlt
  obtain ⟨rfl,rfl⟩:=line_eq (a:=a) (s:=s) (c:=c) (s':=s') (c':=c') hd (fun t ha ht=>by rw [← h2 t (by grind),← h1 t (by grind)];exact h t ha)
  refine ⟨rfl,rfl,?_⟩
  obtain ⟨x,s1⟩:=p
  obtain ⟨hx,hs1,hl⟩:=hp
  obtain ⟨e1,he1,h3⟩:=ev_line (c:=c+(s - s1)*x) hl
  cases l' with
  | nil =>
   exfalso
   have:=line_eq (a:=x) (s:=s1) (c:=c+(s - s1)*x) (s':=s) (c':=c) he1 (fun t ha ht=>by
    rw [← h3 t ht]
    have:=h t (by grind)
    simp only [ev] at this
    rw [if_neg (by grind)] at this
    exact this)
   grind
  | cons p' l' =>
   obtain ⟨x',s1'⟩:=p'
   obtain ⟨hx',hs1',hl'⟩:=hp'
   obtain ⟨e2,he2,h4⟩:=ev_line (c:=c+(s - s1')*x') hl'
   have hxx:x=x':=by
    apply Classical.byContradiction
    intro hne
    rcases (show x<x' ∨ x'<x by grind) with hlt|hlt
    ·have hm:∃ d,0<d∧d≤e1∧d≤x' - x:=by
      by_cases e:e1≤x' - x
      ·exact ⟨e1,he1,by grind,e⟩
      ·exact ⟨x' - x,by grind,by grind,by grind⟩
     obtain ⟨d,hd,hda,hdb⟩:=hm
     have:=line_eq (a:=x) (s:=s1) (c:=c+(s - s1)*x) (s':=s) (c':=c) hd (fun t ha ht=>by
      rw [← h3 t (by grind)]
      have:=h t (by grind)
      simp only [ev] at this
      rw [if_neg (by grind),if_pos (by grind)] at this
      exact this)
     grind
    ·have hm:∃ d,0<d∧d≤e2∧d≤x - x':=by
      by_cases e:e2≤x - x'
      ·exact ⟨e2,he2,by grind,e⟩
      ·exact ⟨x - x',by grind,by grind,by grind⟩
     obtain ⟨d,hd,hda,hdb⟩:=hm
     have:=line_eq (a:=x') (s:=s1') (c:=c+(s - s1')*x') (s':=s) (c':=c) hd (fun t ha ht=>by
      rw [← h4 t (by grind)]
      have:=h t (by grind)
      simp only [ev] at this
      rw [if_pos (by grind),if_neg (by grind)] at this
      exact this.symm)
     grind
   subst hxx
   obtain ⟨rfl,_,rfl⟩:=ih l' x s1 (c+(s - s1)*x) s1' (c+(s - s1')*x) hl hl' (fun t ht=>by
    have:=h t (by grind)
    simp only [ev] at this
    rw [if_neg (by grind),if_neg (by grind)] at this
    exact this)
   rfl
def line (p q:Rat × Rat) (t:Rat):Rat:=p.2+(t - p.1)*((q.2 - p.2) / (q.1 - p.1))

def evL:List (Rat × Rat) → Rat → Rat
 | [],t=>t
 | [p],t=>p.2+(t - p.1)
 | [p,q],t=>line p q t
 | p :: q :: r :: l,t=>if t<q.1 then line p q t else evL (q :: r :: l) t

def Rising:List (Rat × Rat) → Prop
 | []=>True
 | [_]=>True
 | p :: q :: l=>p.1<q.1∧p.2<q.2∧Rising (q :: l)

theorem line_left {p q:Rat × Rat}:line p q p.1=p.2:=by simp only [line];grind
theorem line_right {p q:Rat × Rat} (h:p.1<q.1):line p q q.1=q.2:=by
 simp only [line]
 have:q.1 - p.1≠0:=by grind
 grind
theorem div_pos' {a b:Rat} (ha:0<a) (hb:0<b):0<a / b:=by
 rw [Rat.div_def];exact Rat.mul_pos ha (Rat.inv_pos.mpr hb)
theorem line_mono {p q:Rat × Rat} (h1:p.1<q.1) (h2:p.2<q.2) {t u:Rat} (h:t<u):line p q t<line p q u:=by
 simp only [line]
 have hs:=div_pos' (a:=q.2 - p.2) (b:=q.1 - p.1) (by grind) (by grind)
 have:=Rat.mul_pos hs (show 0<u - t by grind)
 grind

theorem evL_cons {p q r:Rat × Rat} {l:List (Rat × Rat)} {t:Rat}:evL (p :: q :: r :: l) t=if t<q.1 then line p q t else evL (q :: r :: l) t:=rfl

theorem evL_ge_head (p:Rat × Rat) (l:List (Rat × Rat)):∀ (_:Rising (p :: l)) (t:Rat) (_:p.1≤t),p.2≤evL (p :: l) t:=by
 induction l generalizing p with
 | nil=>intro _ t ht;simp only [evL];grind
 | cons q l ih =>
  intro h t ht
  have hl:p.2≤line p q t:=by
   by_cases e:t=p.1
   ·subst e;rw [line_left];grind
   ·have:=line_mono h.1 h.2.1 (show p.1<t by grind);rw [line_left] at this;grind
  cases l with
  | nil=>exact hl
  | cons r l =>
   rw [evL_cons]
   split
   ·exact hl
   ·have:=ih q h.2.2 t (by grind);have:=h.2.1;grind

theorem evL_mono (l:List (Rat × Rat)):∀ (_:Rising l) (t u:Rat),t<u → evL l t<evL l u:=by
 induction l with
 | nil=>intro _ t u h;exact h
 | cons p l ih =>
  intro h t u htu
  cases l with
  | nil=>simp only [evL];grind
  | cons q l =>
   cases l with
   | nil=>exact line_mono h.1 h.2.1 htu
   | cons r l =>
    rw [evL_cons,evL_cons]
    by_cases h1:t<q.1
    ·by_cases h2:u<q.1
     ·rw [if_pos h1,if_pos h2];exact line_mono h.1 h.2.1 htu
     ·rw [if_pos h1,if_neg h2]
      have a:=line_mono h.1 h.2.1 h1
      rw [line_right h.1] at a
      have b:=evL_ge_head q (r :: l) h.2.2 u (by grind)
      grind
    ·rw [if_neg h1,if_neg (by grind)]
     exact ih h.2.2 t u htu

def swap (l:List (Rat × Rat)):List (Rat × Rat):=l.map fun p=>(p.2,p.1)

theorem rising_swap (l:List (Rat × Rat)):Rising l → Rising (swap l):=by
 induction l with
 | nil=>intro _;trivial
 | cons p l ih =>
  intro h
  cases l with
  | nil=>trivial
  | cons q l=>exact ⟨h.2.1,h.1,ih h.2.2⟩

theorem line_swap {p q:Rat × Rat} (h1:p.1<q.1) (h2:p.2<q.2) (t:Rat):line (p.2,p.1) (q.2,q.1) (line p q t)=t:=by
 simp only [line]
 have a:q.1 - p.1≠0:=by grind
 have b:q.2 - p.2≠0:=by grind
 have c:(q.2 - p.2) / (q.1 - p.1)*((q.1 - p.1) / (q.2 - p.2))=1:=by
  rw [Rat.div_def,Rat.div_def];grind
 have:p.1+(p.2+(t - p.1)*((q.2 - p.2) / (q.1 - p.1)) - p.2)*((q.1 - p.1) / (q.2 - p.2))=p.1+(t - p.1)*((q.2 - p.2) / (q.1 - p.1)*((q.1 - p.1) / (q.2 - p.2))):=by grind
 rw [this,c];grind

theorem evL_swap (l:List (Rat × Rat)):∀ (_:Rising l) (t:Rat),evL (swap l) (evL l t)=t:=by
 induction l with
 | nil=>intro _ t;rfl
 | cons p l ih =>
  intro h t
  cases l with
  | nil=>simp only [swap,List.map,evL];grind
  | cons q l =>
   cases l with
   | nil=>exact line_swap h.1 h.2.1 t
   | cons r l =>
    rw [evL_cons]
    show evL ((p.2,p.1) :: (q.2,q.1) :: (r.2,r.1) :: swap l) _=t
    by_cases h1:t<q.1
    ·rw [if_pos h1,evL_cons]
     have a:=line_mono h.1 h.2.1 h1
     rw [line_right h.1] at a
     rw [if_pos a]
     exact line_swap h.1 h.2.1 t
    ·rw [if_neg h1,evL_cons]
     have b:=evL_ge_head q (r :: l) h.2.2 t (by grind)
     rw [if_neg (by simp only;grind)]
     exact ih h.2.2 t
def slp (p q:Rat × Rat):Rat:=(q.2 - p.2) / (q.1 - p.1)

theorem slp_eq {p q:Rat × Rat} (h:p.1<q.1) {s c:Rat} (hp:p.2=c+s*p.1) (hq:q.2=c+s*q.1):slp p q=s:=by
 simp only [slp]
 have:q.1 - p.1≠0:=by grind
 grind
theorem on_slp {p q:Rat × Rat} (h:p.1<q.1) {c:Rat} (hp:p.2=c+slp p q*p.1):q.2=c+slp p q*q.1:=by
 simp only [slp] at *
 have:q.1 - p.1≠0:=by grind
 grind
theorem slp_pos {p q:Rat × Rat} (h:p.1<q.1) (h2:p.2<q.2):0<slp p q:=div_pos' (by grind) (by grind)

def jb (s:Rat) (q:Rat × Rat):List (Rat × Rat) → List ((Rat × Rat) × Rat)
 | []=>[]
 | r :: l=>if slp q r=s then jb s r l else (q,slp q r) :: jb (slp q r) r l

def toB (J:List ((Rat × Rat) × Rat)):List (Rat × Rat):=J.map fun j=>(j.1.1,j.2)

structure Mp where
 s:Rat
 c:Rat
 J:List ((Rat × Rat) × Rat)
deriving DecidableEq

def Mp.ev (m:Mp) (t:Rat):Rat:=PL.ev m.s m.c (toB m.J) t

def make:List (Rat × Rat) → Mp
 | []=>⟨1,0,[]⟩
 | [p]=>⟨1,p.2 - p.1,[]⟩
 | p :: q :: l=>⟨slp p q,p.2 - slp p q*p.1,jb (slp p q) q l⟩

def VJ (s c:Rat):List ((Rat × Rat) × Rat) → Prop
 | []=>True
 | (k,s') :: J=>k.2=c+s*k.1∧s'≠s∧0<s'∧(∀ j ∈ J.head?,k.1<j.1.1)∧VJ s' (c+(s - s')*k.1) J

def Mp.Valid (m:Mp):Prop:=0<m.s∧VJ m.s m.c m.J

theorem proper_of_VJ (J:List ((Rat × Rat) × Rat)):∀ (a s c:Rat),VJ s c J → (∀ j ∈ J.head?,a<j.1.1) → Proper a s (toB J):=by
 induction J with
 | nil=>intro a s c _ _;trivial
 | cons j J ih =>
  obtain ⟨k,s'⟩:=j
  intro a s c h ha
  exact ⟨ha _ rfl,h.2.1,ih _ _ _ h.2.2.2.2 h.2.2.2.1⟩

theorem exists_below (J:List ((Rat × Rat) × Rat)) (b:Rat):∃ a,a<b∧∀ j ∈ J.head?,a<j.1.1:=by
 cases J with
 | nil=>exact ⟨b - 1,by grind,by simp⟩
 | cons j J =>
  by_cases h:b<j.1.1
  ·exact ⟨b - 1, by grind, by intro x hx; have : x = j := by simpa using hx.symm
                              subst this;grind⟩
  ·exact ⟨j.1.1 - 1, by grind, by intro x hx; have : x = j := by simpa using hx.symm
                                  subst this;grind⟩

theorem jb_spec (l:List (Rat × Rat)):∀ (s c:Rat) (q:Rat × Rat),Rising (q :: l) → q.2=c+s*q.1 →
  VJ s c (jb s q l)∧(∀ j ∈ (jb s q l).head?,q.1≤j.1.1) ∧
  ∀ t,PL.ev s c (toB (jb s q l)) t=if t<q.1 then c+s*t else (match l with|[]=>c+s*t|r :: l=>evL (q :: r :: l) t):=by
 induction l with
 | nil=>intro s c q _ _;exact ⟨trivial,by simp [jb],fun t=>by simp [jb,toB,PL.ev]⟩
 | cons r l ih =>
  intro s c q h hq
  by_cases e:slp q r=s
  ·have hr:r.2=c+s*r.1:=by rw [← e];exact on_slp h.1 (by rw [e];exact hq)
   obtain ⟨i1,i2,i3⟩:=ih s c r h.2.2 hr
   simp only [jb]
   rw [if_pos e]
   refine ⟨i1,fun j hj=>by have:=i2 j hj;have:=h.1;grind,fun t=>?_⟩
   rw [i3 t]
   have hl:line q r t=c+s*t:=by
    have:line q r t=q.2+(t - q.1)*slp q r:=rfl
    rw [this,e,hq];grind
   have h1:=h.1
   cases l with
   | nil=>simp only [evL];rw [hl];simp
   | cons r' l =>
    simp only [evL_cons,hl]
    by_cases a:t<q.1
    ·rw [if_pos (show t<r.1 by grind),if_pos a]
    ·rw [if_neg a]
  ·have hr0:r.2=(q.2 - slp q r*q.1)+slp q r*r.1:=on_slp h.1 (by grind)
   have hr:r.2=(c+(s - slp q r)*q.1)+slp q r*r.1:=by grind
   obtain ⟨i1,i2,i3⟩:=ih (slp q r) (c+(s - slp q r)*q.1) r h.2.2 hr
   simp only [jb]
   rw [if_neg e]
   refine ⟨⟨hq,e,slp_pos h.1 h.2.1,fun j hj=>by have:=i2 j hj;have:=h.1;grind,i1⟩,by simp,fun t=>?_⟩
   show PL.ev s c ((q.1,slp q r) :: toB (jb (slp q r) r l)) t=_
   simp only [PL.ev]
   rw [i3 t]
   have hl:line q r t=c+(s - slp q r)*q.1+slp q r*t:=by
    have:line q r t=q.2+(t - q.1)*slp q r:=rfl
    rw [this,hq];grind
   cases l with
   | nil=>simp only [evL];rw [hl];simp
   | cons r' l=>simp only [evL_cons,hl]

theorem make_valid {l:List (Rat × Rat)} (h:Rising l):(make l).Valid:=by
 match l,h with
 | [],_=>exact ⟨by decide,trivial⟩
 | [p],_=>exact ⟨by simp only [make];decide,trivial⟩
 | p :: q :: l,h=>exact ⟨slp_pos h.1 h.2.1,(jb_spec l (slp p q) (p.2 - slp p q*p.1) q h.2.2 (on_slp h.1 (by grind))).1⟩

theorem make_ev {l:List (Rat × Rat)} (h:Rising l) (t:Rat):(make l).ev t=evL l t:=by
 match l,h with
 | [],_=>simp [make,Mp.ev,toB,PL.ev,evL];grind
 | [p],_=>simp [make,Mp.ev,toB,PL.ev,evL];grind
 | p :: q :: l,h =>
  obtain ⟨_,_,i⟩:=jb_spec l (slp p q) (p.2 - slp p q*p.1) q h.2.2 (on_slp h.1 (by grind))
  simp only [Mp.ev,make]
  rw [i t]
  have hl:line p q t=p.2 - slp p q*p.1+slp p q*t:=by
   have:line p q t=p.2+(t - p.1)*slp p q:=rfl
   rw [this];grind
  cases l with
  | nil=>simp only [evL];rw [hl];simp
  | cons r l=>simp only [evL_cons,hl]

theorem toB_inj (J:List ((Rat × Rat) × Rat)):∀ (J':List ((Rat × Rat) × Rat)) (s c:Rat),VJ s c J → VJ s c J' → toB J=toB J' → J=J':=by
 induction J with
 | nil=>intro J' s c _ _ h;cases J' with
  | nil=>rfl
  | cons j J'=>simp [toB] at h
 | cons j J ih =>
  intro J' s c h h' e
  cases J' with
  | nil=>simp [toB] at e
  | cons j' J' =>
   obtain ⟨⟨x,y⟩,s1⟩:=j
   obtain ⟨⟨x',y'⟩,s1'⟩:=j'
   simp only [toB,List.map_cons,List.cons.injEq,Prod.mk.injEq] at e
   obtain ⟨⟨rfl,rfl⟩,e⟩:=e
   have a:=h.1
   have b:=h'.1
   simp only at a b
   have:y=y':=by rw [a,b]
   subst this
   rw [ih J' _ _ h.2.2.2.2 h'.2.2.2.2 e]

theorem Mp.unique {m n:Mp} (hm:m.Valid) (hn:n.Valid) (h:∀ t,m.ev t=n.ev t):m=n:=by
 obtain ⟨a1,_,ha1⟩:=exists_below m.J 0
 obtain ⟨a2,h21,ha2⟩:=exists_below n.J a1
 have p1:=proper_of_VJ m.J a2 m.s m.c hm.2 (fun j hj=>by have:=ha1 j hj;grind)
 have p2:=proper_of_VJ n.J a2 n.s n.c hn.2 ha2
 obtain ⟨e1,e2,e3⟩:=ev_unique _ _ a2 _ _ _ _ p1 p2 (fun t _=>h t)
 obtain ⟨s,c,J⟩:=m
 obtain ⟨s',c',J'⟩:=n
 simp only at e1 e2 e3
 subst e1 e2
 rw [toB_inj J J' s c hm.2 hn.2 e3]

def tailK:Rat × Rat → Rat → List ((Rat × Rat) × Rat) → List (Rat × Rat)
 | k,s,[]=>[(k.1+1,k.2+s)]
 | _,_,(k,s) :: J=>k :: tailK k s J

def Mp.knots (m:Mp):List (Rat × Rat):=match m.J with
 | []=>[(0,m.c),(1,m.c+m.s)]
 | (k,s) :: J=>(k.1 - 1,k.2 - m.s) :: k :: tailK k s J

theorem tailK_spec (J:List ((Rat × Rat) × Rat)):∀ (s c:Rat) (k:Rat × Rat),0<s → k.2=c+s*k.1 → VJ s c J → (∀ j ∈ J.head?,k.1<j.1.1) →
  Rising (k :: tailK k s J)∧∃ r l,tailK k s J=r :: l∧slp k r=s∧jb s r l=J:=by
 induction J with
 | nil =>
  intro s c k hs hk _ _
  refine ⟨⟨by simp only;grind,by simp only;grind,trivial⟩,_,_,rfl,slp_eq (c:=c) (by simp only;grind) hk (by simp only;grind),rfl⟩
 | cons j J ih =>
  obtain ⟨k',s'⟩:=j
  intro s c k hs hk h hj
  have hlt:k.1<k'.1:=hj _ rfl
  have hy:k.2<k'.2:=by
   have:=Rat.mul_lt_mul_of_pos_left hlt hs
   rw [hk,h.1];grind
  have hk':k'.2=(c+(s - s')*k'.1)+s'*k'.1:=by have:=h.1;grind
  obtain ⟨i1,r,l,i2,i3,i4⟩:=ih s' (c+(s - s')*k'.1) k' h.2.2.1 hk' h.2.2.2.2 h.2.2.2.1
  refine ⟨⟨hlt,hy,i1⟩,k',tailK k' s' J,rfl,slp_eq hlt hk h.1,?_⟩
  rw [i2]
  simp only [jb]
  rw [if_neg (by rw [i3];exact h.2.1),i3,i4]

theorem Mp.knots_spec {m:Mp} (h:m.Valid):Rising m.knots∧make m.knots=m:=by
 obtain ⟨s,c,J⟩:=m
 obtain ⟨h0,h⟩:=h
 simp only at h0 h
 cases J with
 | nil =>
  refine ⟨⟨by simp only;grind,by simp only;grind,trivial⟩,?_⟩
  simp only [knots,make,jb]
  have:slp (0,c) (1,c+s)=s:=slp_eq (c:=c) (by simp only;grind) (by simp only;grind) (by simp only;grind)
  rw [this]
  simp only [Rat.mul_zero]
  congr 1
  grind
 | cons j J =>
  obtain ⟨k,s'⟩:=j
  have hk':k.2=(c+(s - s')*k.1)+s'*k.1:=by have:=h.1;grind
  obtain ⟨i1,r,l,i2,i3,i4⟩:=tailK_spec J s' (c+(s - s')*k.1) k h.2.2.1 hk' h.2.2.2.2 h.2.2.2.1
  have e:slp (k.1 - 1,k.2 - s) k=s:=slp_eq (c:=c) (by simp only;grind) (by have:=h.1;simp only;grind) h.1
  refine ⟨⟨by simp only;grind,by simp only;grind,i1⟩,?_⟩
  simp only [knots,make]
  rw [e,i2]
  simp only [jb]
  rw [if_neg (by rw [i3];exact h.2.1),i3,i4]
  have:=h.1
  simp only [Mp.mk.injEq]
  exact ⟨trivial,by grind,trivial⟩

theorem Mp.knots_ev {m:Mp} (h:m.Valid) (t:Rat):evL m.knots t=m.ev t:=by
 rw [← make_ev (knots_spec h).1,(knots_spec h).2]

theorem Mp.ev_mono {m:Mp} (h:m.Valid) {t u:Rat} (e:t<u):m.ev t<m.ev u:=by
 rw [← knots_ev h,← knots_ev h];exact evL_mono _ (knots_spec h).1 _ _ e

def Aff (G:Rat → Rat) (I:Rat → Prop):Prop:=∃ s c,∀ t,I t → G t=c+s*t

def Out (I:Rat → Prop) (x:Rat):Prop:=(∀ t,I t → t≤x) ∨ (∀ t,I t → x≤t)

def Up:List Rat → Prop
 | []=>True
 | [_]=>True
 | x :: y :: l=>x<y∧Up (y :: l)

theorem Up.tail {x:Rat} {l:List Rat} (h:Up (x :: l)):Up l:=by
 cases l with
 | nil=>trivial
 | cons y l=>exact h.2

theorem Up.lt {x:Rat} {l:List Rat} (h:Up (x :: l)):∀ y ∈ l,x<y:=by
 induction l generalizing x with
 | nil=>intro y hy;cases hy
 | cons z l ih =>
  intro y hy
  rcases List.mem_cons.mp hy with rfl|hy
  ·exact h.1
  ·have:=ih h.2 y hy;have:=h.1;grind

def graph (G:Rat → Rat) (l:List Rat):List (Rat × Rat):=l.map fun x=>(x,G x)

def Turns (m n:Mp) (x:Rat):Prop:=(∃ j ∈ m.J,j.1.1=x) ∨ ∃ j ∈ n.J,m.ev x=j.1.1

theorem Mp.le_of_ev {m:Mp} (h:m.Valid) {t u:Rat} (e:m.ev t≤m.ev u):t≤u:=by
 by_cases c:t≤u
 ·exact c
 ·have:=ev_mono h (show u<t by grind);grind
theorem Mp.ev_le {m:Mp} (h:m.Valid) {t u:Rat} (e:t≤u):m.ev t≤m.ev u:=by
 by_cases c:t=u
 ·subst c;grind
 ·have:=ev_mono h (show t<u by grind);grind

theorem Mp.onto {m:Mp} (h:m.Valid) (y:Rat):∃ x,m.ev x=y:=by
 have hs:=rising_swap _ (knots_spec h).1
 have:=evL_swap (swap m.knots) hs y
 have e:swap (swap m.knots)=m.knots:=by simp [swap,Function.comp_def]
 rw [e,knots_ev h] at this
 exact ⟨_,this⟩

def insT (t:Rat):List Rat → List Rat
 | []=>[t]
 | x :: l=>if t<x then t :: x :: l else x :: insT t l

end Go.Proofs.Ythlpaglldhgmfaa.PL
namespace Go.Proofs.Ythlpaglldhgmfaa.PA
open Go
set_option linter.unusedSimpArgs false
set_option linter.unusedVariables false
def qr (r:Rt):Rat:=qv r.1 r.2
def qk (k:Kn):Rat × Rat:=(qr k.1,qr k.2)
theorem qr_inj {a b:Rt} (ha:rRight a=true) (hb:rRight b=true) (e:qr a=qr b):a=b:=by
 obtain ⟨h1,h2⟩:=qv_inj ha hb e
 exact Prod.ext h1 h2
theorem qk_inj {a b:Kn} (ha:rRight a.1=true∧rRight a.2=true) (hb:rRight b.1=true∧rRight b.2=true) (e:qk a=qk b):a=b:=by
 have e1:=congrArg Prod.fst e
 have e2:=congrArg Prod.snd e
 exact Prod.ext (qr_inj ha.1 hb.1 e1) (qr_inj ha.2 hb.2 e2)
theorem map_inj_on {α β:Type} {f:α → β} {P:α → Prop} (hf:∀ a b,P a → P b → f a=f b → a=b):∀ (l l':List α),(∀ a ∈ l,P a) → (∀ a ∈ l',P a) → l.map f=l'.map f → l=l':=by
 intro l
 induction l with
 | nil=>intro l' _ _ h;cases l' with|nil=>rfl|cons a l'=>simp at h
 | cons a l ih =>
  intro l' h1 h2 h
  cases l' with
  | nil=>simp at h
  | cons b l' =>
   simp only [List.map_cons,List.cons.injEq] at h
   rw [hf a b (h1 a List.mem_cons_self) (h2 b List.mem_cons_self) h.1,ih l' (fun x hx=>h1 x (List.mem_cons_of_mem _ hx)) (fun x hx=>h2 x (List.mem_cons_of_mem _ hx)) h.2]
theorem pr0 {p:Rt × Int} (h:p.2=0):p=(p.1,0):=Prod.ext rfl h
theorem t3_ok {x:Int × Int × Int} {r:Rt} (h:t3 x=(r,0)):x=(r.1,r.2,0):=by
 obtain ⟨a,b,c⟩:=x
 unfold t3 at h
 cases h
 rfl
theorem rAdd_ok {a b x:Rt} (h:rAdd a b=(x,0)):rRight a=true∧rRight b=true∧rRight x=true∧qr x=qr a+qr b:=addS_ok (t3_ok h)
theorem rSub_ok {a b x:Rt} (h:rSub a b=(x,0)):rRight a=true∧rRight b=true∧rRight x=true∧qr x=qr a - qr b:=subS_ok (t3_ok h)
theorem rMul_ok {a b x:Rt} (h:rMul a b=(x,0)):rRight a=true∧rRight b=true∧rRight x=true∧qr x=qr a*qr b:=mulS_ok (t3_ok h)
theorem rDiv_ok {a b x:Rt} (h:rDiv a b=(x,0)):rRight a=true∧rRight b=true∧b.1≠0∧rRight x=true∧qr x=qr a / qr b:=divS_ok (t3_ok h)
theorem rCmp_q {a b:Rt} (ha:rRight a=true) (hb:rRight b=true):rCmp a b=if qr a=qr b then 0 else if qr a<qr b then -1 else 1:=cmpS_q ha hb
theorem rCmp_lt {a b:Rt} (ha:rRight a=true) (hb:rRight b=true):rCmp a b<0 ↔ qr a<qr b:=by
 rw [rCmp_q ha hb]
 by_cases h:qr a=qr b
 ·rw [if_pos h,h];simp [Rat.lt_irrefl]
 ·rw [if_neg h]
  by_cases h2:qr a<qr b
  ·rw [if_pos h2];simp [h2]
  ·rw [if_neg h2];simp [h2]
theorem rCmp_le {a b:Rt} (ha:rRight a=true) (hb:rRight b=true):rCmp a b≤0 ↔ qr a≤qr b:=cmpS_le ha hb
theorem doS_0 (f:Rt → Rt → Rt × Int) (a b:Rt):doS f 0 a b=f a b:=by unfold doS;rw [if_pos rfl]
theorem doS_e {f:Rt → Rt → Rt × Int} {e:Int} {a b:Rt} (h:(doS f e a b).2=0):e=0∧(f a b).2=0:=by
 unfold doS at h
 split at h
 ·exact ⟨‹_›,h⟩
 ·exact absurd h ‹_›
theorem doS_ok {f:Rt → Rt → Rt × Int} {e:Int} {a b x:Rt} (h:doS f e a b=(x,0)):e=0∧f a b=(x,0):=by
 obtain ⟨rfl,_⟩:=doS_e (by rw [h]:(doS f e a b).2=0)
 rw [doS_0] at h
 exact ⟨rfl,h⟩
theorem right_1:rRight (1,1)=true:=by decide
theorem qr_0:qr (0,1)=0:=by unfold qr qv;rfl
theorem qr_1:qr (1,1)=1:=by unfold qr qv;rfl
theorem along_ok {k:Kn} {s t x:Rt} (h:alongS k s t=(x,0)):rRight k.1=true∧rRight k.2=true∧rRight s=true∧rRight t=true∧rRight x=true∧qr x=qr k.2+(qr t - qr k.1)*qr s:=by
 unfold alongS at h
 obtain ⟨h1,h2⟩:=doS_ok h
 obtain ⟨h3,h4⟩:=doS_e h1
 obtain ⟨a1,a2,a3,a4⟩:=rSub_ok (pr0 h3)
 rw [h3,doS_0] at h2
 obtain ⟨b1,b2,b3,b4⟩:=rMul_ok (pr0 h4)
 obtain ⟨c1,c2,c3,c4⟩:=rAdd_ok h2
 exact ⟨a2,c1,b2,a1,c3,by rw [c4,b4,a4]⟩
theorem back_ok {k:Kn} {s t x:Rt} (h:backS k s t=(x,0)):rRight k.1=true∧rRight k.2=true∧rRight s=true∧rRight t=true∧rRight x=true∧qr x=qr k.1+(qr t - qr k.2) / qr s:=by
 unfold backS at h
 obtain ⟨h1,h2⟩:=doS_ok h
 obtain ⟨h3,h4⟩:=doS_e h1
 obtain ⟨a1,a2,a3,a4⟩:=rSub_ok (pr0 h3)
 rw [h3,doS_0] at h2
 obtain ⟨b1,b2,_,b3,b4⟩:=rDiv_ok (pr0 h4)
 obtain ⟨c1,c2,c3,c4⟩:=rAdd_ok h2
 exact ⟨c1,a2,b2,a1,c3,by rw [c4,b4,a4]⟩
theorem rises_q:∀ (l:List Kn),(∀ k ∈ l,rRight k.1=true∧rRight k.2=true) → ((risesB (·.1) l=true∧risesB (·.2) l=true) ↔ PL.Rising (l.map qk))
 | [],_=>by simp [risesB,PL.Rising]
 | [a],_=>by simp [risesB,PL.Rising]
 | a :: b :: l,h=>by
  have ih:=rises_q (b :: l) (fun k hk=>h k (List.mem_cons_of_mem _ hk))
  have ha:=h a List.mem_cons_self
  have hb:=h b (List.mem_cons_of_mem _ List.mem_cons_self)
  have e1:=rCmp_lt ha.1 hb.1
  have e2:=rCmp_lt ha.2 hb.2
  simp only [List.map_cons] at ih ⊢
  simp only [risesB,Bool.and_eq_true,decide_eq_true_eq,PL.Rising,← ih,e1,e2]
  constructor
  ·rintro ⟨⟨x1,x2⟩,y1,y2⟩;exact ⟨x1,y1,x2,y2⟩
  ·rintro ⟨x1,y1,x2,y2⟩;exact ⟨⟨x1,x2⟩,y1,y2⟩
theorem chk0_iff (l:List Kn):chkK l=0 ↔ l≠[]∧l.length≤64∧(∀ k ∈ l,rRight k.1=true∧rRight k.2=true)∧PL.Rising (l.map qk):=by
 unfold chkK
 by_cases h0:l.length=0
 ·rw [if_pos h0];simp [List.length_eq_zero_iff.mp h0]
 ·rw [if_neg h0]
  have hne:l≠[]:=fun e=>h0 (by rw [e];rfl)
  by_cases h1:64<l.length
  ·rw [if_pos h1];simp;intro _ h;omega
  ·rw [if_neg h1]
   cases h2:(l.all fun k=>rRight k.1 && rRight k.2)
   ·rw [if_pos rfl]
    simp only [show ((12:Int)=0)=False by simp,false_iff]
    rintro ⟨_,_,h,_⟩
    rw [List.all_eq_true.2 (fun k hk=>by simp [h k hk])] at h2
    cases h2
   ·rw [if_neg (by decide)]
    have hr:∀ k ∈ l,rRight k.1=true∧rRight k.2=true:=fun k hk=>by have:=List.all_eq_true.1 h2 k hk;simpa using this
    have hq:=rises_q l hr
    cases h3:risesB (·.1) l
    ·rw [if_pos rfl];rw [h3] at hq;simp only [show ((33:Int)=0)=False by simp,false_iff];rintro ⟨_,_,_,h⟩;have:=hq.2 h;simp at this
    ·rw [if_neg (by decide)]
     cases h4:risesB (·.2) l
     ·rw [if_pos rfl];rw [h4] at hq;simp only [show ((32:Int)=0)=False by simp,false_iff];rintro ⟨_,_,_,h⟩;have:=hq.2 h;simp at this
     ·rw [if_neg (by decide)]
      simp only [true_iff]
      exact ⟨hne,by omega,hr,hq.1 ⟨h3,h4⟩⟩
def slF:Rat × Rat → List (Rat × Rat) → List Rat
 | _,[]=>[]
 | p,r :: l=>PL.slp p r :: slF r l
theorem piece_ok {e:Int} {k k':Kn} {s:Rt} (h:pieceS e k k'=(s,0)):e=0∧(rRight k.1=true∧rRight k.2=true)∧(rRight k'.1=true∧rRight k'.2=true)∧rRight s=true∧qr s=PL.slp (qk k) (qk k'):=by
 unfold pieceS at h
 obtain ⟨h1,h2⟩:=doS_ok h
 obtain ⟨h3,h4⟩:=doS_e h1
 obtain ⟨h5,h6⟩:=doS_e h3
 subst h5
 rw [doS_0] at h2 h3
 rw [h3,doS_0] at h2
 obtain ⟨a1,a2,a3,a4⟩:=rSub_ok (pr0 h6)
 obtain ⟨b1,b2,b3,b4⟩:=rSub_ok (pr0 h4)
 obtain ⟨_,_,_,c3,c4⟩:=rDiv_ok h2
 exact ⟨rfl,⟨b2,a2⟩,⟨b1,a1⟩,c3,by rw [c4,a4,b4];rfl⟩
theorem slp_err:∀ (l:List Kn) (e:Int),(slpF l e).2=0 → e=0
 | [],e,h=>h
 | [_],e,h=>h
 | k :: k' :: l,e,h=>by
  simp only [slpF] at h
  exact (piece_ok (pr0 (slp_err _ _ h))).1
theorem slp_ok:∀ (ks:List Kn) (k:Kn) (e:Int) (ss:List Rt),slpF (k :: ks) e=(ss,0) → e=0∧ss.map qr=slF (qk k) (ks.map qk)∧(∀ s ∈ ss,rRight s=true)∧(ks≠[] → ∀ x ∈ k :: ks,rRight x.1=true∧rRight x.2=true):=by
 intro ks
 induction ks with
 | nil =>
  intro k e ss h
  simp only [slpF,Prod.mk.injEq] at h
  obtain ⟨rfl,rfl⟩:=h
  exact ⟨rfl,rfl,fun s hs=>(by cases hs),fun h=>absurd rfl h⟩
 | cons k' ks ih =>
  intro k e ss h
  simp only [slpF,Prod.mk.injEq] at h
  obtain ⟨rfl,h2⟩:=h
  have h3:=slp_err _ _ h2
  obtain ⟨e1,r1,r2,r3,r4⟩:=piece_ok (pr0 h3)
  obtain ⟨_,i2,i3,i4⟩:=ih k' _ _ (pr02 h2)
  refine ⟨e1,?_,?_,fun _ x hx=>?_⟩
  ·simp only [List.map_cons,slF,i2,r4]
  ·intro s hs
   rcases List.mem_cons.1 hs with rfl|hs
   ·exact r3
   ·exact i3 s hs
  ·rcases List.mem_cons.1 hx with rfl|hx
   ·exact r1
   ·by_cases hn:ks=[]
    ·subst hn;have:x=k':=by simpa using hx
     subst this;exact r2
    ·exact i4 hn x hx
where
 pr02 {p:List Rt × Int} (h:p.2=0):p=(p.1,0):=Prod.ext rfl h
def bq (b:Kn × Rt):(Rat × Rat) × Rat:=(qk b.1,qr b.2)
theorem bend_jb:∀ (ss:List Rt) (p:Rt) (k:Kn) (ks:List Kn),rRight p=true → (∀ s ∈ ss,rRight s=true) → ss.map qr=slF (qk k) (ks.map qk) → (bendF p ss (k :: ks)).map bq=PL.jb (qr p) (qk k) (ks.map qk):=by
 intro ss
 induction ss with
 | nil =>
  intro p k ks _ _ h
  cases ks with
  | nil=>rfl
  | cons r ks=>simp [slF] at h
 | cons s ss ih =>
  intro p k ks hp hs h
  cases ks with
  | nil=>simp [slF] at h
  | cons r ks =>
   simp only [List.map_cons,slF,List.cons.injEq] at h
   have hs1:=hs s List.mem_cons_self
   have i:=ih s r ks hs1 (fun x hx=>hs x (List.mem_cons_of_mem _ hx)) h.2
   simp only [bendF,List.map_cons,PL.jb,← h.1]
   by_cases e:s=p
   ·rw [if_pos e,if_pos (by rw [e]),i,e]
   ·rw [if_neg e,if_neg (fun e2=>e (qr_inj hs1 hp e2))]
    simp only [List.map_cons,i]
    rfl
theorem at_ok {e:Int} {k:Kn} {s t:Rt} (h:(atS e k s t).2=0):e=0∧(alongS k s t).2=0∧(atS e k s t).1=(t,(alongS k s t).1):=by
 unfold atS at h ⊢
 by_cases he:e=0
 ·rw [if_pos he] at h ⊢;exact ⟨he,h,rfl⟩
 ·rw [if_neg he] at h;exact absurd h he
theorem newK_inv {l:List Kn} {m:MapV} (h:newK l=(some m,0)):∃ k0 ks p0 ss,l=k0 :: ks∧chkK l=0∧slopesS l=(p0 :: ss,0)∧m.slopes=p0 :: (bendF p0 ss ks).map (·.2)∧m.bends=(bendF p0 ss ks).length∧ownK p0 (bendF p0 ss ks) k0=(m.knots,0)∧(slopesS m.knots).2=0:=by
 unfold newK at h
 by_cases h1:chkK l=0
 ·rw [if_neg (by simp [h1])] at h
  by_cases h2:(slopesS l).2=0
  ·rw [if_neg (by simp [h2])] at h
   split at h
   ·rename_i p0 ss k0 ks h3
    dsimp only at h
    by_cases h4:(ownK p0 (bendF p0 ss ks) k0).2=0
    ·rw [if_neg (by simp [h4])] at h
     by_cases h5:(slopesS (ownK p0 (bendF p0 ss ks) k0).1).2=0
     ·rw [if_neg (by simp [h5])] at h
      cases h
      exact ⟨k0,ks,p0,ss,rfl,h1,Prod.ext h3 h2,rfl,rfl,Prod.ext rfl h4,h5⟩
     ·rw [if_pos h5] at h;cases h
    ·rw [if_pos h4] at h;cases h
   ·cases h
  ·rw [if_pos h2] at h;cases h
 ·rw [if_pos h1] at h;cases h
theorem newK_cases (l:List Kn):(∃ m,newK l=(some m,0)) ∨ ∃ e,e≠0∧newK l=(none,e):=by
 unfold newK
 by_cases h1:chkK l=0
 ·rw [if_neg (by simp [h1])]
  by_cases h2:(slopesS l).2=0
  ·rw [if_neg (by simp [h2])]
   split
   ·rename_i p0 ss k0 ks h3
    dsimp only
    by_cases h4:(ownK p0 (bendF p0 ss ks) k0).2=0
    ·rw [if_neg (by simp [h4])]
     by_cases h5:(slopesS (ownK p0 (bendF p0 ss ks) k0).1).2=0
     ·rw [if_neg (by simp [h5])];exact .inl ⟨_,rfl⟩
     ·rw [if_pos h5];exact .inr ⟨_,h5,rfl⟩
    ·rw [if_pos h4];exact .inr ⟨_,h4,rfl⟩
   ·exact .inr ⟨1,by decide,rfl⟩
  ·rw [if_pos h2];exact .inr ⟨_,h2,rfl⟩
 ·rw [if_pos h1];exact .inr ⟨_,h1,rfl⟩
theorem tailK_last:∀ (J:List ((Rat × Rat) × Rat)) (k:Rat × Rat) (s:Rat) (kl:Rat × Rat) (sl:Rat),((k,s) :: J).getLast (by simp)=(kl,sl) → PL.tailK k s J=J.map (·.1) ++ [(kl.1+1,kl.2+sl)]:=by
 intro J
 induction J with
 | nil=>intro k s kl sl h;simp only [List.getLast_singleton,Prod.mk.injEq] at h;obtain ⟨rfl,rfl⟩:=h;rfl
 | cons j J ih =>
  obtain ⟨k',s'⟩:=j
  intro k s kl sl h
  rw [List.getLast_cons_cons] at h
  simp only [PL.tailK,List.map_cons,List.cons_append,ih k' s' kl sl h]
theorem slF_tail:∀ (J:List ((Rat × Rat) × Rat)) (s c:Rat) (k:Rat × Rat),0<s → k.2=c+s*k.1 → PL.VJ s c J → (∀ j ∈ J.head?,k.1<j.1.1) → slF k (PL.tailK k s J)=s :: J.map (·.2):=by
 intro J
 induction J with
 | nil=>intro s c k hs hk _ _;simp only [PL.tailK,slF,List.map_nil];rw [PL.slp_eq (c:=c) (by simp only;grind) hk (by simp only;grind)]
 | cons j J ih =>
  obtain ⟨k',s'⟩:=j
  intro s c k hs hk h hj
  have hlt:k.1<k'.1:=hj _ rfl
  have hk':k'.2=(c+(s - s')*k'.1)+s'*k'.1:=by have:=h.1;grind
  simp only [PL.tailK,slF,List.map_cons]
  rw [ih s' _ k' h.2.2.1 hk' h.2.2.2.2 h.2.2.2.1,PL.slp_eq hlt hk h.1]
theorem slF_own {m:PL.Mp} (h:m.Valid):∃ p q l,m.knots=p :: q :: l∧slF p (q :: l)=m.s :: m.J.map (·.2):=by
 obtain ⟨s,c,J⟩:=m
 obtain ⟨h0,h⟩:=h
 simp only at h0 h
 cases J with
 | nil=>exact ⟨_,_,_,rfl,by simp only [slF,List.map_nil];rw [PL.slp_eq (s:=s) (c:=c) (by simp only;grind) (by simp only;grind) (by simp only;grind)]⟩
 | cons j J =>
  obtain ⟨k,s'⟩:=j
  have hk':k.2=(c+(s - s')*k.1)+s'*k.1:=by have:=h.1;grind
  refine ⟨_,_,_,rfl,?_⟩
  simp only [slF,List.map_cons]
  rw [slF_tail J s' _ k h.2.2.1 hk' h.2.2.2.2 h.2.2.2.1,PL.slp_eq (c:=c) (by simp only;grind) (by have:=h.1;simp only;grind) h.1]
theorem bend_mem:∀ (ss:List Rt) (p:Rt) (ks:List Kn),∀ x ∈ bendF p ss ks,x.1 ∈ ks∧x.2 ∈ ss:=by
 intro ss
 induction ss with
 | nil=>intro p ks x hx;cases ks<;>simp [bendF] at hx
 | cons s ss ih =>
  intro p ks x hx
  cases ks with
  | nil=>simp [bendF] at hx
  | cons a ks =>
   simp only [bendF] at hx
   split at hx
   ·have:=ih s ks x hx;exact ⟨List.mem_cons_of_mem _ this.1,List.mem_cons_of_mem _ this.2⟩
   ·rcases List.mem_cons.mp hx with rfl|hx
    ·exact ⟨List.mem_cons_self,List.mem_cons_self⟩
    ·have:=ih s ks x hx;exact ⟨List.mem_cons_of_mem _ this.1,List.mem_cons_of_mem _ this.2⟩
theorem bend_len:∀ (ss:List Rt) (p:Rt) (ks:List Kn),(bendF p ss ks).length≤ss.length:=by
 intro ss
 induction ss with
 | nil=>intro p ks;cases ks<;>simp [bendF]
 | cons x ss ih =>
  intro p ks
  cases ks with
  | nil=>simp [bendF]
  | cons a ks =>
   simp only [bendF]
   split
   ·have:=ih x ks;simp only [List.length_cons];omega
   ·have:=ih x ks;simp only [List.length_cons];omega
structure MapQ (l:List Kn) (m:MapV):Prop where
 ne:l≠[]
 le:l.length≤64
 lr:∀ k ∈ l,rRight k.1=true∧rRight k.2=true
 rs:PL.Rising (l.map qk)
 kn:m.knots.map qk=(PL.make (l.map qk)).knots
 kr:∀ k ∈ m.knots,rRight k.1=true∧rRight k.2=true
 sl:m.slopes.map qr=(PL.make (l.map qk)).s :: (PL.make (l.map qk)).J.map (·.2)
 sr:∀ s ∈ m.slopes,rRight s=true
 ns:m.slopes.length≤64
theorem MapQ.val {l:List Kn} {m:MapV} (h:MapQ l m):(PL.make (l.map qk)).Valid:=PL.make_valid h.rs
theorem slope_len:∀ (ks:List Kn) (k:Kn) (e:Int),(slpF (k :: ks) e).1.length=ks.length:=by
 intro ks
 induction ks with
 | nil=>intro k e;rfl
 | cons k' ks ih=>intro k e;simp only [slpF,List.length_cons,ih]
theorem make_of {k0:Kn} {ks:List Kn} {p0:Rt} {ss:List Rt} (h:slopesS (k0 :: ks)=(p0 :: ss,0)) :
  PL.make ((k0 :: ks).map qk)=⟨qr p0,qr k0.2 - qr p0*qr k0.1,(bendF p0 ss ks).map bq⟩∧rRight p0=true∧(∀ s ∈ ss,rRight s=true)∧ss.length=ks.length - 1:=by
 cases ks with
 | nil =>
  have h:(([(1,1)]:List Rt),(0:Int))=(p0 :: ss,0):=h
  simp only [Prod.mk.injEq,List.cons.injEq,and_true] at h
  obtain ⟨rfl,rfl⟩:=h
  refine ⟨?_,right_1,fun s hs=>(by cases hs),rfl⟩
  have e1:qr (1,1)=1:=qr_1
  show (⟨1,(qk k0).2 - (qk k0).1,[]⟩:PL.Mp)=⟨qr (1,1),qr k0.2 - qr (1,1)*qr k0.1,[]⟩
  rw [e1]
  simp only [qk,Rat.one_mul]
 | cons k1 ks =>
  have h:slpF (k0 :: k1 :: ks) 0=(p0 :: ss,0):=by rw [← h];unfold slopesS;rw [if_neg (by simp)]
  have hl:=slope_len (k1 :: ks) k0 0
  rw [h] at hl
  obtain ⟨_,i2,i3,_⟩:=slp_ok _ _ _ _ h
  simp only [List.map_cons,slF,List.cons.injEq] at i2
  have rp:=i3 p0 List.mem_cons_self
  have rss:∀ s ∈ ss,rRight s=true:=fun s hs=>i3 s (List.mem_cons_of_mem _ hs)
  refine ⟨?_,rp,rss,by simp only [List.length_cons] at hl ⊢;omega⟩
  rw [bend_jb ss p0 k1 ks rp rss i2.2]
  simp only [List.map_cons,PL.make,← i2.1]
  rfl
theorem own_q {p0:Rt} {B:List (Kn × Rt)} {k0:Kn} {K:List Kn} (h:ownK p0 B k0=(K,0)) :
  K.map qk=(⟨qr p0,qr k0.2 - qr p0*qr k0.1,B.map bq⟩:PL.Mp).knots∧K.length=B.length+2:=by
 cases B with
 | nil =>
  have h:lineS k0 p0=(K,0):=h
  unfold lineS at h
  dsimp only at h
  simp only [Prod.mk.injEq] at h
  obtain ⟨rfl,h2⟩:=h
  obtain ⟨e1,f1,g1⟩:=at_ok h2
  obtain ⟨_,f0,g0⟩:=at_ok e1
  obtain ⟨_,_,_,_,_,a0⟩:=along_ok (pr0 f0)
  obtain ⟨_,_,_,_,_,a1⟩:=along_ok (pr0 f1)
  refine ⟨?_,rfl⟩
  rw [g1,g0]
  simp only [List.map_cons,List.map_nil,PL.Mp.knots,qk,a0,a1,qr_0,qr_1]
  simp only [List.cons.injEq,Prod.mk.injEq,and_true,true_and]
  exact ⟨by grind,by grind⟩
 | cons b B' =>
  obtain ⟨⟨kl,sl⟩,hl⟩:∃ z,(b :: B').getLast (by simp)=z:=⟨_,rfl⟩
  have e:ownK p0 (b :: B') k0=bentS p0 (b :: B') b (kl,sl):=by rw [← hl];rfl
  rw [e] at h
  unfold bentS at h
  dsimp only at h
  simp only [Prod.mk.injEq] at h
  obtain ⟨rfl,h2⟩:=h
  obtain ⟨y0,f1,g1⟩:=at_ok h2
  obtain ⟨h0,y1⟩:=doS_e y0
  obtain ⟨x0,f0,g0⟩:=at_ok h0
  rw [h0,doS_0] at g1 f1 y0
  obtain ⟨_,_,_,xq⟩:=rSub_ok (pr0 x0)
  obtain ⟨_,_,_,yq⟩:=rAdd_ok (pr0 y0)
  obtain ⟨_,_,_,_,_,a0⟩:=along_ok (pr0 f0)
  obtain ⟨_,_,_,_,_,a1⟩:=along_ok (pr0 f1)
  have hlb:((b :: B').map bq).getLast (by simp)=(qk kl,qr sl):=by rw [List.getLast_map,hl];rfl
  refine ⟨?_,by simp⟩
  rw [h0,doS_0,g1,g0]
  have tl:=tailK_last (B'.map bq) (qk b.1) (qr b.2) (qk kl) (qr sl) hlb
  simp only [List.map_cons,List.map_append,List.map_nil,PL.Mp.knots,bq,List.map_map] at tl ⊢
  have tl2:PL.tailK (qk b.1) (qr b.2) (List.map bq B')=List.map qk (List.map (fun x=>x.1) B') ++ [((qk kl).1+1,(qk kl).2+qr sl)]:=by
   rw [tailK_last (B'.map bq) (qk b.1) (qr b.2) (qk kl) (qr sl) hlb];simp [bq,List.map_map,Function.comp]
  simp only [List.map_map] at tl2
  rw [tl2]
  simp only [List.cons_append,List.cons.injEq,qk,a0,a1,xq,yq,qr_1]
  refine ⟨Prod.ext ?_ ?_,trivial,?_⟩
  ·rfl
  ·dsimp only;grind
  ·congr 1
   simp only [List.cons.injEq,Prod.mk.injEq,and_true,true_and]
   grind
theorem newK_Q {l:List Kn} {m:MapV} (h:newK l=(some m,0)):MapQ l m:=by
 obtain ⟨k0,ks,p0,ss,rfl,h1,h2,h3,h4,h5,h6⟩:=newK_inv h
 obtain ⟨c1,c2,c3,c4⟩:=(chk0_iff _).1 h1
 obtain ⟨m1,m2,m3,m4⟩:=make_of h2
 obtain ⟨o1,o2⟩:=own_q h5
 refine ⟨c1,c2,c3,c4,by rw [m1];exact o1,?_,?_,?_,?_⟩
 ·have hne:m.knots.length≠1:=by omega
  unfold slopesS at h6
  rw [if_neg hne] at h6
  cases hk:m.knots with
  | nil=>intro k hk;cases hk
  | cons a K =>
   rw [hk] at h6
   obtain ⟨_,_,_,q⟩:=slp_ok K a 0 _ (slp_ok.pr02 h6)
   exact q (fun e=>by rw [hk,e] at hne;exact hne rfl)
 ·rw [h3,m1];simp [bq,List.map_map,Function.comp]
 ·intro s hs
  rw [h3] at hs
  rcases List.mem_cons.1 hs with rfl|hs
  ·exact m2
  ·obtain ⟨x,hx,rfl⟩:=List.mem_map.1 hs;exact m3 _ (bend_mem _ _ _ x hx).2
 ·rw [h3]
  have:=bend_len ss p0 ks
  simp only [List.length_cons,List.length_map] at c2 ⊢
  omega
theorem lastLe_spec (f:Kn → Rt) (t:Rt):∀ (l:List Kn) (i a:Nat),
  (lastLe f t l i a=a∧∀ j (h:j<l.length),¬ rCmp (f l[j]) t≤0) ∨ (∃ j,∃ h:j<l.length,lastLe f t l i a=i+j∧rCmp (f l[j]) t≤0∧∀ j' (h':j'<l.length),j<j' → ¬ rCmp (f l[j']) t≤0):=by
 intro l
 induction l with
 | nil=>intro i a;exact .inl ⟨rfl,fun j h=>absurd h (Nat.not_lt_zero _)⟩
 | cons k l ih =>
  intro i a
  simp only [lastLe]
  rcases ih (i+1) (if rCmp (f k) t≤0 then i else a) with ⟨h1,h2⟩|⟨j,hj,h1,h2,h3⟩
  ·by_cases hc:rCmp (f k) t≤0
   ·rw [if_pos hc] at h1
    refine .inr ⟨0,by simp,by rw [if_pos hc,h1];rfl,hc,fun j' h' hlt=>?_⟩
    obtain ⟨j'',rfl⟩:∃ x,j'=x+1:=⟨j' - 1,by omega⟩
    exact h2 j'' (by simpa using h')
   ·rw [if_neg hc] at h1
    refine .inl ⟨by rw [if_neg hc,h1],fun j' h'=>?_⟩
    cases j' with
    | zero=>exact hc
    | succ j''=>exact h2 j'' (by simpa using h')
  ·refine .inr ⟨j+1,by simpa using hj,by rw [h1];omega,h2,fun j' h' hlt=>?_⟩
   obtain ⟨j'',rfl⟩:∃ x,j'=x+1:=⟨j' - 1,by omega⟩
   exact h3 j'' (by simpa using h') (by omega)
theorem at_spec (m:MapV) (f:Kn → Rt) (t:Rt) (h0:0<m.knots.length):∃ h:m.at f t<m.knots.length,(m.at f t=0 ∨ rCmp (f m.knots[m.at f t]) t≤0)∧∀ j (h':j<m.knots.length),m.at f t<j → ¬ rCmp (f m.knots[j]) t≤0:=by
 unfold MapV.at
 rcases lastLe_spec f t m.knots 0 0 with ⟨h1,h2⟩|⟨j,hj,h1,h2,h3⟩
 ·exact ⟨by rw [h1];exact h0,.inl h1,fun j h' _=>h2 j h'⟩
 ·have e:lastLe f t m.knots 0 0=j:=by rw [h1];omega
  refine ⟨by rw [e];exact hj,.inr ?_,fun j' h' hlt=>h3 j' h' (by omega)⟩
  simp only [e]
  exact h2
theorem rising_lt:∀ (l:List (Rat × Rat)) (p:Rat × Rat),PL.Rising (p :: l) → ∀ j (h:j<l.length),p.1<l[j].1∧p.2<l[j].2:=by
 intro l
 induction l with
 | nil=>intro p _ j h;exact absurd h (Nat.not_lt_zero _)
 | cons q l ih =>
  intro p hp j h
  obtain ⟨h1,h2,h3⟩:=hp
  cases j with
  | zero=>exact ⟨h1,h2⟩
  | succ j =>
   have:=ih q h3 j (by simpa using h)
   simp only [List.getElem_cons_succ]
   exact ⟨by grind,by grind⟩
theorem slF_len:∀ (l:List (Rat × Rat)) (p:Rat × Rat),(slF p l).length=l.length:=by
 intro l
 induction l with
 | nil=>intro p;rfl
 | cons q l ih=>intro p;simp only [slF,List.length_cons,ih]
theorem evL_idx (t:Rat):∀ (l:List (Rat × Rat)) (p q:Rat × Rat) (i:Nat) (hi:i<(p :: q :: l).length),PL.Rising (p :: q :: l) → (i=0 ∨ (p :: q :: l)[i].1≤t) → (∀ j (hj:j<(p :: q :: l).length),i<j → t<(p :: q :: l)[j].1) →
  PL.evL (p :: q :: l) t=(p :: q :: l)[i].2+(t - (p :: q :: l)[i].1)*(slF p (q :: l)).getD (min i l.length) 0:=by
 intro l
 induction l with
 | nil =>
  intro p q i hi hr h1 h2
  have hr1:=hr.1
  rcases (by simp at hi;omega:i=0 ∨ i=1) with rfl|rfl
  ·simp [PL.evL,PL.line,slF,PL.slp]
  ·simp only [PL.evL,PL.line,slF,PL.slp,List.getElem_cons_succ,List.getElem_cons_zero,List.length_nil,Nat.min_zero,List.getD_cons_zero]
   have:q.1 - p.1≠0:=by grind
   grind
 | cons r l ih =>
  intro p q i hi hr h1 h2
  rw [PL.evL_cons]
  cases i with
  | zero =>
   rw [if_pos (show t<q.1 from h2 1 (by simp) (by omega))]
   simp [PL.line,slF,PL.slp]
  | succ i =>
   have hge:¬ t<q.1:=by
    have hc:=h1.resolve_left (by omega)
    simp only [List.getElem_cons_succ] at hc
    cases i with
    | zero=>simp only [List.getElem_cons_zero] at hc;grind
    | succ i =>
     have:=(rising_lt (r :: l) q hr.2.2 i (by simpa using hi)).1
     simp only [List.getElem_cons_succ] at hc
     grind
   rw [if_neg hge,ih q r i (by simpa using hi) hr.2.2 (.inr (by simpa using h1.resolve_left (by omega))) (fun j hj hlt=>by have:=h2 (j+1) (by simpa using hj) (by omega);simpa using this)]
   simp only [List.getElem_cons_succ,slF,List.length_cons]
   rw [show min (i+1) (l.length+1)=min i l.length+1 by omega]
   simp only [List.getD_cons_succ]
theorem getD_map {α β:Type} (f:α → β) (l:List α) (n:Nat) (d:α):(l.map f).getD n (f d)=f (l.getD n d):=by
 simp [List.getD_eq_getElem?_getD,List.getElem?_map]
theorem MapQ.own {l:List Kn} {m:MapV} (h:MapQ l m):∃ p q L,m.knots.map qk=p :: q :: L∧slF p (q :: L)=m.slopes.map qr∧m.knots.length=L.length+2∧m.slopes.length=L.length+1:=by
 obtain ⟨p,q,L,h1,h2⟩:=slF_own h.val
 rw [← h.kn] at h1
 rw [← h.sl] at h2
 refine ⟨p,q,L,h1,h2,?_,?_⟩
 ·have:=congrArg List.length h1;simpa using this
 ·have:=congrArg List.length h2;rw [slF_len] at this;simp at this;omega
theorem MapQ.rk {l:List Kn} {m:MapV} (h:MapQ l m):PL.Rising (m.knots.map qk):=by rw [h.kn];exact (PL.Mp.knots_spec h.val).1
theorem MapQ.app {l:List Kn} {m:MapV} (h:MapQ l m) {t x:Rt} (ha:m.app t=(x,0)):rRight t=true∧rRight x=true∧qr x=(PL.make (l.map qk)).ev (qr t):=by
 obtain ⟨p,q,L,o1,o2,o3,o4⟩:=h.own
 unfold MapV.app at ha
 split at ha
 ·rename_i ht
  obtain ⟨a1,a2,a3,a4,a5,a6⟩:=along_ok ha
  refine ⟨ht,a5,?_⟩
  obtain ⟨hi,s1,s2⟩:=at_spec m (·.1) t (by omega)
  have hrk:=h.rk
  rw [← PL.Mp.knots_ev h.val,← h.kn]
  rw [o1] at hrk ⊢
  have hel:∀ j (hj:j<m.knots.length),∃ hj',(p :: q :: L)[j]'hj'=qk m.knots[j]:=by
   intro j hj
   have:j<(m.knots.map qk).length:=by simpa using hj
   refine ⟨by rw [← o1];exact this,?_⟩
   simp only [← o1,List.getElem_map]
  have hm:∀ j (hj:j<m.knots.length),rRight (m.knots[j]).1=true:=fun j hj=>(h.kr _ (List.getElem_mem hj)).1
  obtain ⟨hi',e1⟩:=hel _ hi
  rw [evL_idx (qr t) L p q (m.at (·.1) t) hi' hrk ?_ ?_,e1,a6]
  ·have ek:m.knot (m.at (·.1) t)=m.knots[m.at (·.1) t]:=by unfold MapV.knot;rw [List.getD_eq_getElem?_getD,List.getElem?_eq_getElem hi];rfl
   rw [ek,o2]
   have z:(0:Rat)=qr (0,0):=by unfold qr qv;rfl
   rw [z,getD_map]
   unfold MapV.slope
   rw [show m.slopes.length - 1=L.length by omega]
   rfl
  ·rcases s1 with s1|s1
   ·exact .inl s1
   ·rw [e1];exact .inr ((rCmp_le (hm _ hi) ht).1 s1)
  ·intro j hj hlt
   have hj2:j<m.knots.length:=by rw [o3];simpa using hj
   obtain ⟨_,e2⟩:=hel j hj2
   rw [e2]
   have:=s2 j hj2 hlt
   rw [rCmp_le (hm j hj2) ht] at this
   exact Rat.not_le.1 this
 ·cases ha
end Go.Proofs.Ythlpaglldhgmfaa.PA
