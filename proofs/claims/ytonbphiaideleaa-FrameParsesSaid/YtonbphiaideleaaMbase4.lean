/- What the printed walks of chapters 04 and 05 stand on. -/
import Derived.Test.YtonbphiaideleaaMbytb
import Derived.Test.YtonbphiaideleaaMheadw
import Derived.Test.YtonbphiaideleaaMawake4
